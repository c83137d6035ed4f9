/- Natural numbers by digits of 65536: the long division. -/
import Derived.Test.YtojogbnepbblgaaGreatPart5
import Derived.Test.YtojogbnepbblgaaGreatPart3
import Derived.Test.YtojogbnepbblgaaGreatPart4
namespace Sym
open Go
theorem half' (N i:Nat):N / 2 ^ i = 2 * (N / 2 ^ (i + 1)) + N / 2 ^ i % 2:=by
 rw [Nat.pow_succ,← Nat.div_div_eq_div_mul]
 omega
structure DivOut (a q r:List Dg) (n j:Nat):Prop where
 ql:q.length = a.length
 qd:b9X q
 rd:b9X r
 lt:bv r < n
 zero:∀ s,s < j→(rd0 q s).nat = 0
 eq:bv (a.drop j) = bv (q.drop j) * n + bv r
structure DivMid (a q r:List Dg) (n i t:Nat):Prop where
 ql:q.length = a.length
 qd:b9X q
 rd:b9X r
 lt:bv r < n
 zero:∀ s,s < i→(rd0 q s).nat = 0
 low:(rd0 q i).nat % 2 ^ t = 0
 eq:bv (a.drop (i + 1)) * 2 ^ (16 - t) + (rd0 a i).nat / 2 ^ t = (bv (q.drop (i + 1)) * 2 ^ (16 - t) + (rd0 q i).nat / 2 ^ t) * n + bv r
theorem f0E {a q r:List Dg} {n i:Nat} (ha:b9X a) (h:DivOut a q r n (i + 1)):DivMid a q r n i 16:=by
 have hz:=h.zero i (by omega)
 have h1:=(b5H ha i).nat.2
 have p:2 ^ 16 = 65536:=by decide
 refine ⟨h.ql,h.qd,h.rd,h.lt,fun s hs=>h.zero s (by omega),by rw [hz,Nat.zero_mod],?_⟩
 rw [hz,p,Nat.div_eq_of_lt h1,h.eq]
 simp
theorem mid_end {a q r:List Dg} {n i:Nat} (h:DivMid a q r n i 0):DivOut a q r n i:=by
 refine ⟨h.ql,h.qd,h.rd,h.lt,h.zero,?_⟩
 have heq:=h.eq
 have p:2 ^ (16 - 0) = 65536:=by decide
 rw [p] at heq
 simp only [Nat.pow_zero,Nat.div_one] at heq
 rw [b8T a,b8T q,Nat.add_comm,Nat.mul_comm 65536,heq,Nat.add_comm (rd0 q i).nat,Nat.mul_comm 65536]
theorem g1L {x t:Nat} (h:x % 2 ^ (t + 1) = 0):x % 2 ^ t = 0∧x / 2 ^ t = 2 * (x / 2 ^ (t + 1)):=by
 have h1:=half' x t
 rw [Nat.pow_succ] at h
 have h4:=Nat.mod_mul (x:=x) (a:=2 ^ t) (b:=2)
 rw [h] at h4
 have h5:0 < 2 ^ t:=Nat.pow_pos (by decide)
 have h6:x / 2 ^ t % 2 = 0:=by
  rcases Nat.eq_zero_or_pos (x / 2 ^ t % 2) with h6 | h6
  ·
   exact h6
  ·
   have:2 ^ t * 1 ≤ 2 ^ t * (x / 2 ^ t % 2):=Nat.mul_le_mul_left _ h6
   omega
 omega
theorem e4O {a q r r' q':List Dg} {n i t e:Nat} (h:DivMid a q r n i (t + 1)) (ht:t < 16) (hr:bv r' + e * n = 2 * bv r + (rd0 a i).nat / 2 ^ t % 2) (hrd:b9X r') (hlt:bv r' < n)
  (ql:q'.length = a.length) (qd:b9X q') (zero:∀ s,s < i→(rd0 q' s).nat = 0) (qi:(rd0 q' i).nat = (rd0 q i).nat + e * 2 ^ t) (qdrop:q'.drop (i + 1) = q.drop (i + 1)):DivMid a q' r' n i t:=by
 have h1:=g1L h.low
 have hp:2 ^ (16 - t) = 2 * 2 ^ (16 - (t + 1)):=by
  have e:16 - t = (16 - (t + 1)) + 1:=by omega
  rw [e,Nat.pow_succ,Nat.mul_comm]
 have ha:=half' (rd0 a i).nat t
 have hq:(rd0 q' i).nat / 2 ^ t = 2 * ((rd0 q i).nat / 2 ^ (t + 1)) + e:=by
  rw [qi,Nat.add_mul_div_right _ _ (Nat.pow_pos (by decide)),h1.2]
 refine ⟨ql,qd,hrd,hlt,zero,by rw [qi,Nat.add_mul_mod_self_right]; exact h1.1,?_⟩
 have heq:=h.eq
 rw [qdrop,hp,hq,ha]
 have e1:bv (a.drop (i + 1)) * (2 * 2 ^ (16 - (t + 1))) = 2 * (bv (a.drop (i + 1)) * 2 ^ (16 - (t + 1))):=Nat.mul_left_comm _ _ _
 have e2:bv (q.drop (i + 1)) * (2 * 2 ^ (16 - (t + 1))) = 2 * (bv (q.drop (i + 1)) * 2 ^ (16 - (t + 1))):=Nat.mul_left_comm _ _ _
 rw [e1,e2]
 have e3:(2 * (bv (q.drop (i + 1)) * 2 ^ (16 - (t + 1))) + (2 * ((rd0 q i).nat / 2 ^ (t + 1)) + e)) * n = 2 * ((bv (q.drop (i + 1)) * 2 ^ (16 - (t + 1)) + (rd0 q i).nat / 2 ^ (t + 1)) * n) + e * n:=by
  rw [← Nat.add_assoc,← Nat.mul_add,Nat.add_mul,Nat.mul_assoc]
 rw [e3]
 omega
structure DblInv (r:List Dg) (b over k:Nat) (s:List Dg):Prop where
 len:s.length = r.length
 dig:b9X s
 drop:s.drop k = r.drop k
 o1:over ≤ 1
 eq:bv (s.take k) + 65536 ^ k * over = 2 * bv (r.take k) + b
theorem f4T {r s:List Dg} {b over k:Nat} (h:DblInv r b over k s) (hk:k < r.length) (d:Dg) (ov:Nat) (hd:DigOk d) (ho:ov ≤ 1) (hs:d.nat + 65536 * ov = over + 2 * (rd0 s k).nat):DblInv r b ov (k + 1) (s.set k d):=by
 have hrs:rd0 s k = rd0 r k:=by
  have e:=congrArg (fun l:List Dg=>l[0]?) h.drop
  simp only [List.getElem?_drop,Nat.add_zero] at e
  unfold rd0
  have hk2:k < s.length:=by rw [h.len]; exact hk
  rw [a4N _ _ _ hk2,a4N _ _ _ hk]
  rw [List.getElem?_eq_getElem hk2,List.getElem?_eq_getElem hk] at e
  exact Option.some.inj e
 refine ⟨by simpa using h.len,c2W h.dig _ hd,?_,ho,?_⟩
 ·
  rw [c2Y]
  have e:=congrArg (fun l:List Dg=>l.drop 1) h.drop
  simpa [List.drop_drop] using e
 ·
  rw [c2T _ _ _ (by rw [h.len]; exact hk),c3J,c4S r k,← hrs]
  have el:(s.take k).length = k:=by simp [h.len]; omega
  rw [el,Nat.pow_succ]
  simp only [bv,Nat.mul_zero,Nat.add_zero]
  have heq:=h.eq
  have e:=congrArg (fun z=>65536 ^ k * z) hs
  simp only [Nat.mul_add] at e
  rw [← Nat.mul_assoc] at e
  have e2:65536 ^ k * (2 * (rd0 s k).nat) = 2 * (65536 ^ k * (rd0 s k).nat):=Nat.mul_left_comm _ _ _
  rw [e2] at e
  omega
theorem e4S {l:List Dg} {j:I .i64} (h0:0 ≤ j.val) (h1:j.val ≤ (l.length:Int)):inB' j (a0G l) = true:=by
 show (decide (0 ≤ j.val) && decide (j.val ≤ ((l.length:Nat):Int))) = true
 simp [h0,h1]
theorem e3Z (l:List Dg) (j:I .i64):a3W l 0 (I.nat j) = l.take j.val.toNat:=by simp [a3W,I.nat]
theorem c9Q {l:List Dg} {j:I .i64} (h0:0 ≤ j.val) (h:j.val ≤ 0) (hb:bv (l.take j.val.toNat) = bv l):IsB (a3W l 0 (I.nat j)) (bv l):=by
 rw [e3Z]
 have e:j.val.toNat = 0:=by omega
 rw [e] at hb ⊢
 simp only [List.take_zero] at hb ⊢
 rw [← hb]
 exact c0R
theorem d7Q {l:List Dg} {j:I .i64} (hd:b9X l) (h0:0 < j.val) (h1:j.val ≤ (l.length:Int)) (hlen:l.length ≤ 1073741824) (hb:bv (l.take j.val.toNat) = bv l) :
  (I.sub j (I.of .i64 1)).val = j.val - 1∧inB (I.sub j (I.of .i64 1)) (a0G l) = true ∧
  (I.eqb (rdL (I.of .i64 0) l (I.nat (I.sub j (I.of .i64 1)))) (I.of .i64 0) = true→bv (l.take (I.sub j (I.of .i64 1)).val.toNat) = bv l) ∧
  (I.eqb (rdL (I.of .i64 0) l (I.nat (I.sub j (I.of .i64 1)))) (I.of .i64 0) = false→IsB (a3W l 0 (I.nat j)) (bv l)):=by
 have c1:(I.of .i64 1).val = 1:=rfl
 have c0:(I.of .i64 0).val = 0:=rfl
 have hs:(I.sub j (I.of .i64 1)).val = j.val - 1:=by rw [a9Z (by omega)]; omega
 have hidx:(I.nat (I.sub j (I.of .i64 1))) = j.val.toNat - 1:=by unfold I.nat; omega
 have hlt:j.val.toNat - 1 < l.length:=by omega
 have hrd:rdL (I.of .i64 0) l (I.nat (I.sub j (I.of .i64 1))) = l[j.val.toNat - 1]:=by rw [hidx]; exact a4N _ _ _ hlt
 have htk:l.take j.val.toNat = l.take (j.val.toNat - 1) ++ [l[j.val.toNat - 1]]:=by
  rw [List.take_append_getElem hlt]
  congr 1
  omega
 refine ⟨hs,iff_inB.2 ⟨by omega,by show (I.sub j (I.of .i64 1)).val < (l.length:Int); omega⟩,fun h2=>?_,fun h2=>?_⟩
 ·
  have h2:=iff_eqb.1 h2
  rw [hrd,c0] at h2
  have e:(I.sub j (I.of .i64 1)).val.toNat = j.val.toNat - 1:=by omega
  rw [e,← hb,htk,c3J]
  have hz:(l[j.val.toNat - 1]).nat = 0:=by unfold I.nat; rw [h2]; rfl
  simp [bv,hz]
 ·
  have h2:=niff_eqb.1 h2
  rw [hrd,c0] at h2
  rw [e3Z]
  refine ⟨c1Y hd _,?_,hb⟩
  rw [htk]
  exact c4M _ _ h2
theorem f0C {s d:List Dg} {k:Nat} (hk:k < s.length) (hb:bv (s.take k) = bv (d.take k)) (hs:b9X s) (hd:b9X d):bv ((s.set k (rd0 d k)).take (k + 1)) = bv (d.take (k + 1))∧b9X (s.set k (rd0 d k)):=by
 refine ⟨?_,c2W hs _ (b5H hd k)⟩
 rw [c2T _ _ _ hk,c3J,c4S d k,hb]
 have el:(s.take k).length = k:=by simp; omega
 rw [el]
 simp [bv]
theorem g0U (t:I .i64) (h0:0 ≤ t.val) (h1:t.val ≤ 15):(I.shl (I.of .i64 1) (I.conv .u64 t)).val = ((2 ^ t.val.toNat:Nat):Int):=by
 have hc:(I.conv .u64 t).val = t.val:=b9A ⟨by omega,by omega⟩
 have hm:min (I.conv .u64 t).val.toNat IntKind.i64.bits = t.val.toNat:=by
  have:IntKind.i64.bits = 64:=rfl
  omega
 have h3:2 ^ t.val.toNat ≤ 2 ^ 15:=Nat.pow_le_pow_right (by decide) (by omega)
 have h4:((2 ^ t.val.toNat:Nat):Int) = 2 ^ t.val.toNat:=by simp
 have h5:(I.of .i64 1).val = 1:=rfl
 unfold I.shl
 rw [hm,h5,Int.one_mul,← h4]
 exact b7K ⟨Int.le_trans (by decide) (Int.natCast_nonneg _),Int.lt_of_le_of_lt (Int.ofNat_le.2 h3) (by decide)⟩
theorem g2G (x t:I .i64) (hx:0 ≤ x.val) (h0:0 ≤ t.val) (h1:t.val ≤ 15):(I.and (I.shr x (I.conv .u64 t)) (I.of .i64 1)).val = ((x.nat / 2 ^ t.val.toNat % 2:Nat):Int):=by
 have hxr:=b5D x
 have hc:(I.conv .u64 t).val = t.val:=b9A ⟨by omega,by omega⟩
 have hm:min (I.conv .u64 t).val.toNat IntKind.i64.bits = t.val.toNat:=by
  have:IntKind.i64.bits = 64:=rfl
  omega
 have hxn:(x.nat:Int) = x.val:=by unfold I.nat; omega
 have h2:((x.nat / 2 ^ t.val.toNat:Nat):Int) = x.val / (2:Int) ^ t.val.toNat:=by
  rw [Int.natCast_ediv,hxn]; simp
 have hle:=Nat.div_le_self x.nat (2 ^ t.val.toNat)
 have hs:(I.shr x (I.conv .u64 t)).val = ((x.nat / 2 ^ t.val.toNat:Nat):Int):=by
  unfold I.shr
  rw [hm,d5P _ _ hx,← h2]
  exact b7K ⟨Int.le_trans (by decide) (Int.natCast_nonneg _),Int.lt_of_le_of_lt (Int.ofNat_le.2 hle) (by omega)⟩
 have h3:(BitVec.ofInt 64 (I.shr x (I.conv .u64 t)).val &&& BitVec.ofInt 64 1).toNat = x.nat / 2 ^ t.val.toNat % 2:=by
  rw [BitVec.toNat_and,hs]
  have e1:(BitVec.ofInt 64 1).toNat = 2 ^ 1 - 1:=rfl
  rw [e1,Nat.and_two_pow_sub_one_eq_mod,BitVec.toNat_ofInt]
  omega
 have h4:(I.of .i64 1).val = 1:=rfl
 unfold I.and
 rw [h4]
 show (I.of .i64 ((BitVec.ofInt 64 _ &&& BitVec.ofInt 64 1).toNat:Int)).val = _
 rw [h3]
 exact b7K ⟨by omega,by omega⟩
set_option maxHeartbeats 4000000 in
theorem c4I {a b:List Dg} {m n:Nat} (ha:IsB a m) (hb:IsB b n) (hn0:n ≠ 0) (hal:a.length ≤ 1000000) (hbl:b.length ≤ 900000):∃ q r,a3O K0 ((a,b,()),()) = some ((q,r,()),())∧IsB q (m / n)∧IsB r (m % n):=by
 have hol:(I.ofNat .i64 (a0G a)).val = a.length:=a3F (by show a.length < _; omega)
 have hol2:(I.ofNat .i64 (a0G b)).val = b.length:=a3F (by show b.length < _; omega)
 have hn:I.nat (I.ofNat .i64 (a0G a)) = a.length:=by unfold I.nat; omega
 have c0:(I.of .i64 0).val = 0:=rfl
 have c1:(I.of .i64 1).val = 1:=rfl
 have c2:(I.of .i64 2).val = 2:=rfl
 have hb1:(I.add (I.ofNat .i64 (a0G b)) (I.of .i64 1)).val = b.length + 1:=by rw [a5Q (by omega),hol2,c1]
 have hbn:I.nat (I.add (I.ofNat .i64 (a0G b)) (I.of .i64 1)) = b.length + 1:=by unfold I.nat; omega
 have hnlt:=hb.len.1 (Nat.le_refl b.length)
 have key:Wp (fun o=>∃ q r,o = some ((q,r,()),())∧IsB q (m / n)∧IsB r (m % n)) (a3O K0 ((a,b,()),())):=by
  unfold a3O
  refine Wp.brn (fun h=>?_) (fun h=>?_)
  ·
   have h:=iff_eqb.1 h
   have h:(I.ofNat .i64 (a0G b)).val = (I.of .i64 1).val:=h
   have hd1:b.length = 1:=by omega
   obtain ⟨d,hd⟩:=List.length_eq_one_iff.1 hd1
   subst hd
   refine Wp.brnT (iff_inB.2 ⟨by show 0 ≤ (I.of .i64 0).val; decide,by show (I.of .i64 0).val < (([d]:List Dg).length:Int); simp [c0]⟩) ?_
   have hdd:=(digs_cons.1 hb.dig).1
   have hdl:d.val ≠ 0:=hb.lead
   have hdv:d.nat = n:=by have:=hb.val; simp only [bv] at this; omega
   obtain ⟨q,r,h1,h2,h3⟩:=f5Y ha hal d hdd hdl
   rw [hdv] at h2 h3
   exact Wp.optF h1 ⟨q,r,rfl,h2,h3⟩
  clear h
  refine Wp.brnT ?_ (Wp.brnT ?_ (Wp.brnT ?_ (Wp.brnT ?_ ?_)))
  ·
   show (decide (0 ≤ (I.ofNat .i64 (a0G a)).val) && decide ((I.ofNat .i64 (a0G a)).val ≤ ((I.nat (I.ofNat .i64 (a0G a)):Nat):Int))) = true
   rw [hn,hol]; simp
  ·
   show (decide (0 ≤ (I.ofNat .i64 (a0G a)).val) && decide ((I.ofNat .i64 (a0G a)).val ≤ ((1073741824:Nat):Int))) = true
   rw [hol]; simp; omega
  ·
   show (decide (0 ≤ (I.add (I.ofNat .i64 (a0G b)) (I.of .i64 1)).val) && decide ((I.add (I.ofNat .i64 (a0G b)) (I.of .i64 1)).val ≤ ((I.nat (I.add (I.ofNat .i64 (a0G b)) (I.of .i64 1)):Nat):Int))) = true
   rw [hbn,hb1]; simp; omega
  ·
   show (decide (0 ≤ (I.add (I.ofNat .i64 (a0G b)) (I.of .i64 1)).val) && decide ((I.add (I.ofNat .i64 (a0G b)) (I.of .i64 1)).val ≤ ((1073741824:Nat):Int))) = true
   rw [hb1]; simp; omega
  refine Wp.iter (fun x=>x.1.1 = a∧x.1.2.1 = b∧-1 ≤ x.1.2.2.1.val∧x.1.2.2.1.val < (a.length:Int)∧x.2.2.1.length = b.length + 1∧DivOut a x.2.1 x.2.2.1 n (x.1.2.2.1.val + 1).toNat) (fun x=>(x.1.2.2.1.val + 1).toNat) ?_ ?_ ?_
  ·
   rintro ⟨⟨a',b',i,⟨⟩⟩,q0,r0,⟨⟩⟩ ⟨e1,e2,hi0,hi1,hrl,hI⟩
   simp only at e1 e2 hi0 hi1 hrl hI
   subst e1 e2
   have hal:a'.length ≤ 1000000:=hal
   have hbl:b'.length ≤ 900000:=hbl
   have hnlt:n < 65536 ^ b'.length:=hnlt
   have hi1:i.val < (a'.length:Int):=hi1
   have hrl:r0.length = b'.length + 1:=hrl
   refine Wp.brn (fun h=>?_) (fun h=>?_)
   ·
    have hge:=iff_leb.1 h
    have hge:(I.of .i64 0).val ≤ i.val:=hge
    clear h
    have si:(I.sub i (I.of .i64 1)).val = i.val - 1:=by rw [a9Z (by omega)]; omega
    have ei:(i.val + 1).toNat = i.val.toNat + 1:=by omega
    rw [ei] at hI
    have hmi:((I.sub i (I.of .i64 1)).val + 1).toNat < (i.val + 1).toNat:=by omega
    have da:=b5H ha.dig i.val.toNat
    have na:=da.nat
    have da0:=da.1
    refine Wp.iter (fun x=>x.1.1 = a'∧x.1.2.1 = b'∧x.1.2.2.1 = i∧-1 ≤ x.1.2.2.2.1.val∧x.1.2.2.2.1.val ≤ 15∧x.2.2.1.length = b'.length + 1∧DivMid a' x.2.1 x.2.2.1 n i.val.toNat (x.1.2.2.2.1.val + 1).toNat) (fun x=>(x.1.2.2.2.1.val + 1).toNat) ?_ ⟨rfl,rfl,rfl,by show -1 ≤ (I.of .i64 15).val; decide,by show (I.of .i64 15).val ≤ 15; decide,hrl,f0E ha.dig hI⟩ (b8G _ (by show ((I.of .i64 15).val + 1).toNat < _; decide))
    rintro ⟨⟨a1,b1,i1,bit,⟨⟩⟩,q,r,⟨⟩⟩ ⟨e1,e2,e3,hb0,hb15,hrl,hM⟩
    simp only at e1 e2 e3 hb0 hb15 hrl hM
    subst e1 e2 e3
    have hal:a1.length ≤ 1000000:=hal
    have hbl:b1.length ≤ 900000:=hbl
    have hnlt:n < 65536 ^ b1.length:=hnlt
    have hi1:i1.val < (a1.length:Int):=hi1
    have hrl:r.length = b1.length + 1:=hrl
    refine Wp.brn (fun h=>?_) (fun h=>?_)
    ·
     have hbg:=iff_leb.1 h
     have hbg:(I.of .i64 0).val ≤ bit.val:=hbg
     clear h
     have sb:(I.sub bit (I.of .i64 1)).val = bit.val - 1:=by rw [a9Z (by omega)]; omega
     have eb:(bit.val + 1).toNat = bit.val.toNat + 1:=by omega
     rw [eb] at hM
     have hmb:((I.sub bit (I.of .i64 1)).val + 1).toNat < (bit.val + 1).toNat:=by omega
     have esb:((I.sub bit (I.of .i64 1)).val + 1).toNat = bit.val.toNat:=by omega
     refine Wp.brnT (iff_inB.2 ⟨by show 0 ≤ i1.val; omega,by show i1.val < ((a1.length:Nat):Int); omega⟩) (Wp.brnT (c3B _) ?_)
     have hbv:=g2G (rd0 a1 i1.val.toNat) bit da0 (by omega) hb15
     generalize hbe:(rd0 a1 i1.val.toNat).nat / 2 ^ bit.val.toNat % 2 = bv0 at hbv
     have hbv1:bv0 ≤ 1:=by omega
     have holr:(I.ofNat .i64 (a0G r)).val = r.length:=a3F (by show r.length < _; omega)
     have hrlt:=hM.lt
     refine Wp.iter (fun x=>x.1.1 = a1∧x.1.2.1 = b1∧x.1.2.2.1 = i1∧x.1.2.2.2.1 = bit∧x.2.1 = q∧0 ≤ x.1.2.2.2.2.1.val∧0 ≤ x.1.2.2.2.2.2.1.val∧x.1.2.2.2.2.2.1.val ≤ (r.length:Int)∧DblInv r bv0 (I.nat (k:=.i64) x.1.2.2.2.2.1) x.1.2.2.2.2.2.1.val.toNat x.2.2.1) (fun x=>((r.length:Int) - x.1.2.2.2.2.2.1.val).toNat) ?_ ?_ ?_
     ·
      rintro ⟨⟨a2,b2,i2,bit2,ov,k,⟨⟩⟩,q2,s,⟨⟩⟩ ⟨e1,e2,e3,e4,e5,ho0,hk0,hk1,hD⟩
      simp only at e1 e2 e3 e4 e5 ho0 hk0 hk1 hD
      subst e1 e2 e3 e4 e5
      have hal:a2.length ≤ 1000000:=hal
      have hbl:b2.length ≤ 900000:=hbl
      have hnlt:n < 65536 ^ b2.length:=hnlt
      have hi1:i2.val < (a2.length:Int):=hi1
      have hrl:r.length = b2.length + 1:=hrl
      have hsl:s.length = r.length:=hD.len
      have hols:(I.ofNat .i64 (a0G s)).val = s.length:=a3F (by show s.length < _; omega)
      refine Wp.brn (fun h=>?_) (fun h=>?_)
      ·
       have hkl:=iff_ltb.1 h
       have hkl:k.val < (I.ofNat .i64 (a0G s)).val:=hkl
       clear h
       have sk:(I.add k (I.of .i64 1)).val = k.val + 1:=by rw [a5Q (by omega)]; omega
       have bk:inB k (a0G s) = true:=iff_inB.2 ⟨hk0,by show k.val < ((s.length:Nat):Int); omega⟩
       have ds:=b5H hD.dig k.val.toNat
       have ns:=ds.nat
       have ds0:=ds.1
       have o1:=hD.o1
       have ovn:(I.nat ov:Int) = ov.val:=by unfold I.nat; omega
       have hm1:(I.mul (I.of .i64 2) (rd0 s k.val.toNat)).val = 2 * (rd0 s k.val.toNat).val:=by rw [c3Q (by rw [c2]; omega),c2]
       have hs1:(I.add ov (I.mul (I.of .i64 2) (rd0 s k.val.toNat))).val = ov.val + 2 * (rd0 s k.val.toNat).val:=by rw [a5Q (by rw [hm1]; omega),hm1]
       generalize hX:I.add ov (I.mul (I.of .i64 2) (rd0 s k.val.toNat)) = x at hs1
       have hsh:=c8J x (by omega)
       have han:=e1S x (by omega)
       have hdig:DigOk (I.and x (I.of .i64 65535)):=⟨by omega,by omega⟩
       have hshn:((I.shr x (I.of .u64 16)).nat:Int) = (I.shr x (I.of .u64 16)).val:=by unfold I.nat; omega
       have st:=f4T hD (by omega) (I.and x (I.of .i64 65535)) (I.shr x (I.of .u64 16)).nat hdig (by omega) (by have:=hdig.nat; omega)
       refine Wp.brnT bk (Wp.brnT bk ?_)
       refine Wp.again ⟨rfl,rfl,rfl,rfl,rfl,?_,?_,?_,?_⟩ ?_
       ·
        show 0 ≤ (I.shr (I.add ov (I.mul (I.of .i64 2) (rd0 s k.val.toNat))) (I.of .u64 16)).val
        rw [hX]; omega
       ·
        show 0 ≤ (I.add k (I.of .i64 1)).val; omega
       ·
        show (I.add k (I.of .i64 1)).val ≤ _; omega
       ·
        show DblInv r bv0 (I.nat (I.shr (I.add ov (I.mul (I.of .i64 2) (rd0 s k.val.toNat))) (I.of .u64 16))) (I.add k (I.of .i64 1)).val.toNat (setAt s (I.nat k) (I.and (I.add ov (I.mul (I.of .i64 2) (rd0 s k.val.toNat))) (I.of .i64 65535)))
        rw [hX,a7X,show (I.add k (I.of .i64 1)).val.toNat = k.val.toNat + 1 by omega]
        exact st
       ·
        show ((r.length:Int) - (I.add k (I.of .i64 1)).val).toNat < ((r.length:Int) - k.val).toNat
        omega
      ·
       have hkg:=niff_ltb.1 h
       have hkg:(I.ofNat .i64 (a0G s)).val ≤ k.val:=hkg
       clear h
       have hk:k.val.toNat = r.length:=by omega
       rw [hk] at hD
       have heq:=hD.eq
       rw [List.take_of_length_le (l:=s) (by omega),List.take_length,hrl,Nat.pow_succ] at heq
       have hR:bv s = 2 * bv r + bv0:=by
        rcases Nat.lt_or_ge (I.nat ov) 1 with h1 | h1
        ·
         have:I.nat ov = 0:=by omega
         rw [this,Nat.mul_zero,Nat.add_zero] at heq; exact heq
        ·
         exfalso
         have:I.nat ov = 1:=by have:=hD.o1; omega
         rw [this,Nat.mul_one] at heq
         omega
       have hsd:=hD.dig
       have hsl2:s.length ≤ 1073741824:=by omega
       have hRb:bv s < 65536 ^ (b2.length + 1):=by have:=e2P hsd; rw [hsl,hrl] at this; exact this
       refine Wp.done ?_
       refine Wp.iter (fun x=>x.1.2.1 = a2∧x.1.2.2.1 = b2∧x.1.2.2.2.1 = i2∧x.1.2.2.2.2.1 = bit2∧x.2.1 = s∧x.2.2.1 = q2∧0 ≤ x.1.1.val∧x.1.1.val ≤ (s.length:Int)∧bv (s.take x.1.1.val.toNat) = bv s) (fun x=>x.1.1.val.toNat) ?_ ?_ ?_
       ·
        rintro ⟨⟨j,a3,b3,i3,bit3,⟨⟩⟩,s3,q3,⟨⟩⟩ ⟨k0,k1,k2,k3,k4,k5,hj0,hj1,hbt⟩
        simp only at k0 k1 k2 k3 k4 k5 hj0 hj1 hbt
        subst k0 k1 k2 k3 k4 k5
        refine Wp.brn (fun h=>?_) (fun h=>?_)
        have hjp:=iff_ltb.1 h
        have hjp:(I.of .i64 0).val < j.val:=hjp
        clear h
        obtain ⟨sj,bj,z1,z2⟩:=d7Q (l:=s3) (j:=j) hsd hjp hj1 hsl2 hbt
        refine Wp.brnT bj (Wp.brn (fun h2=>?_) (fun h2=>?_))
        ·
         refine Wp.again ⟨rfl,rfl,rfl,rfl,rfl,rfl,?_,?_,z1 h2⟩ ?_
         ·
          show 0 ≤ (I.sub j (I.of .i64 1)).val; omega
         ·
          show (I.sub j (I.of .i64 1)).val ≤ _; omega
         ·
          show (I.sub j (I.of .i64 1)).val.toNat < j.val.toNat
          omega
        have hB:=z2 h2
        clear z1 z2 h2 bj sj
        rotate_left
        have hjz:=niff_ltb.1 h
        have hjz:j.val ≤ (I.of .i64 0).val:=hjz
        clear h
        have hB:=c9Q (l:=s3) (j:=j) hj0 (by omega) hbt
        all_goals
         refine Wp.done (Wp.brnT (e4S hj0 hj1) ?_)
         have hal:a3.length ≤ 1000000:=hal
         have hbl:b3.length ≤ 900000:=hbl
         have hnlt:n < 65536 ^ b3.length:=hnlt
         have hi1:i3.val < (a3.length:Int):=hi1
         have hrl:r.length = b3.length + 1:=hrl
         have hsl:s3.length = r.length:=hsl
         have hcl:(a3W s3 0 (I.nat j)).length ≤ 1000000:=by rw [e3Z,List.length_take]; omega
         refine Wp.optF (c1M hB hb hcl (show b3.length ≤ 1000000 by omega)) ?_
         by_cases hcmp:bv s3 < n
         ·
          refine Wp.brnF (by show I.leb (I.of .i64 0) (c0Z (bv s3) n) = false; unfold c0Z; rw [if_pos hcmp]; rfl) ?_
          have st:=e4O (e:=0) (q':=q3) (r':=s3) hM (by omega) (by rw [hbe]; omega) hsd hcmp hM.ql hM.qd hM.zero (by omega) rfl
          refine Wp.again ⟨rfl,rfl,rfl,?_,?_,?_,?_⟩ hmb
          ·
           show -1 ≤ (I.sub bit3 (I.of .i64 1)).val; omega
          ·
           show (I.sub bit3 (I.of .i64 1)).val ≤ 15; omega
          ·
           show s3.length = _; omega
          ·
           show DivMid a3 q3 s3 n i3.val.toNat ((I.sub bit3 (I.of .i64 1)).val + 1).toNat
           rw [esb]; exact st
         ·
          refine Wp.brnT (by show I.leb (I.of .i64 0) (c0Z (bv s3) n) = true; unfold c0Z; rw [if_neg hcmp]; split <;> rfl) ?_
          have hcge:n ≤ bv s3:=by omega
          clear hB hbt hj0 hj1 hcl
          refine Wp.iter (fun x=>x.1.2.1 = a3∧x.1.2.2.1 = b3∧x.1.2.2.2.1 = i3∧x.1.2.2.2.2.1 = bit3∧x.2.1 = s3∧x.2.2.1 = q3∧0 ≤ x.1.1.val∧x.1.1.val ≤ (s3.length:Int)∧bv (s3.take x.1.1.val.toNat) = bv s3) (fun x=>x.1.1.val.toNat) ?_ ?_ ?_
          ·
           rintro ⟨⟨j,a3,b3,i3,bit3,⟨⟩⟩,s3,q3,⟨⟩⟩ ⟨k0,k1,k2,k3,k4,k5,hj0,hj1,hbt⟩
           simp only at k0 k1 k2 k3 k4 k5 hj0 hj1 hbt
           subst k0 k1 k2 k3 k4 k5
           refine Wp.brn (fun h=>?_) (fun h=>?_)
           have hjp:=iff_ltb.1 h
           have hjp:(I.of .i64 0).val < j.val:=hjp
           clear h
           obtain ⟨sj,bj,z1,z2⟩:=d7Q (l:=s3) (j:=j) hsd hjp hj1 hsl2 hbt
           refine Wp.brnT bj (Wp.brn (fun h2=>?_) (fun h2=>?_))
           ·
            refine Wp.again ⟨rfl,rfl,rfl,rfl,rfl,rfl,?_,?_,z1 h2⟩ ?_
            ·
             show 0 ≤ (I.sub j (I.of .i64 1)).val; omega
            ·
             show (I.sub j (I.of .i64 1)).val ≤ _; omega
            ·
             show (I.sub j (I.of .i64 1)).val.toNat < j.val.toNat
             omega
           have hB:=z2 h2
           clear z1 z2 h2 bj sj
           rotate_left
           have hjz:=niff_ltb.1 h
           have hjz:j.val ≤ (I.of .i64 0).val:=hjz
           clear h
           have hB:=c9Q (l:=s3) (j:=j) hj0 (by omega) hbt
           all_goals
            refine Wp.done (Wp.brnT (e4S hj0 hj1) ?_)
            have hal:a3.length ≤ 1000000:=hal
            have hbl:b3.length ≤ 900000:=hbl
            have hnlt:n < 65536 ^ b3.length:=hnlt
            have hi1:i3.val < (a3.length:Int):=hi1
            have hrl:r.length = b3.length + 1:=hrl
            have hsl:s3.length = r.length:=hsl
            have hcl:(a3W s3 0 (I.nat j)).length ≤ 1000000:=by rw [e3Z,List.length_take]; omega
            obtain ⟨d,hsub,hdB⟩:=c6H hB hb hcge hcl
            refine Wp.optF hsub ?_
            have hdlen:d.length ≤ b3.length + 1:=hdB.len.2 (by omega)
            have hold:(I.ofNat .i64 (a0G d)).val = d.length:=a3F (by show d.length < _; omega)
            refine Wp.iter (fun x=>x.1.1 = a3∧x.1.2.1 = b3∧x.1.2.2.1 = i3∧x.1.2.2.2.1 = bit3∧x.1.2.2.2.2.1 = d∧x.2.1 = q3∧x.2.2.1.length = b3.length + 1∧b9X x.2.2.1∧0 ≤ x.1.2.2.2.2.2.1.val∧x.1.2.2.2.2.2.1.val ≤ (b3.length + 1:Int)∧bv (x.2.2.1.take x.1.2.2.2.2.2.1.val.toNat) = bv (d.take x.1.2.2.2.2.2.1.val.toNat)) (fun x=>((b3.length + 1:Int) - x.1.2.2.2.2.2.1.val).toNat) ?_ ?_ ?_
            ·
             rintro ⟨⟨a4,b4,i4,bit4,d4,k4,⟨⟩⟩,q4,r4,⟨⟩⟩ ⟨f1,f2,f3,f4,f5,f6,hl4,hd4,hk40,hk41,hbk⟩
             simp only at f1 f2 f3 f4 f5 f6 hl4 hd4 hk40 hk41 hbk
             subst f1 f2 f3 f4 f5 f6
             have hal:a4.length ≤ 1000000:=hal
             have hbl:b4.length ≤ 900000:=hbl
             have hi1:i4.val < (a4.length:Int):=hi1
             have hl4:r4.length = b4.length + 1:=hl4
             have hdlen:d4.length ≤ b4.length + 1:=hdlen
             have hold:(I.ofNat .i64 (a0G d4)).val = d4.length:=hold
             have hol4:(I.ofNat .i64 (a0G r4)).val = r4.length:=a3F (by show r4.length < _; omega)
             refine Wp.brn (fun h=>?_) (fun h=>?_)
             ·
              have hkl:=iff_ltb.1 h
              have hkl:k4.val < (I.ofNat .i64 (a0G r4)).val:=hkl
              clear h
              have sk:(I.add k4 (I.of .i64 1)).val = k4.val + 1:=by rw [a5Q (by omega)]; omega
              have st:=f0C (s:=r4) (d:=d4) (k:=k4.val.toNat) (by omega) hbk hd4 hdB.dig
              have hm4:((b4.length + 1:Int) - (I.add k4 (I.of .i64 1)).val).toNat < ((b4.length + 1:Int) - k4.val).toNat:=by omega
              refine Wp.brnT (iff_inB.2 ⟨hk40,by show k4.val < ((r4.length:Nat):Int); omega⟩) ?_
              refine Wp.brn (fun h=>?_) (fun h=>?_)
              ·
               have hkd:=iff_ltb.1 h
               have hkd:k4.val < (I.ofNat .i64 (a0G d4)).val:=hkd
               clear h
               refine Wp.brnT (iff_inB.2 ⟨hk40,by show k4.val < ((d4.length:Nat):Int); omega⟩) ?_
               refine Wp.brnT (iff_inB.2 ⟨hk40,by show k4.val < (((setAt r4 (I.nat k4) (I.of .i64 0)).length:Nat):Int); rw [a7X,List.length_set]; omega⟩) ?_
               have e:setAt (setAt r4 (I.nat k4) (I.of .i64 0)) (I.nat k4) (rd0 d4 k4.val.toNat) = r4.set k4.val.toNat (rd0 d4 k4.val.toNat):=by
                rw [a7X,a7X]
                show (r4.set k4.val.toNat _).set k4.val.toNat _ = _
                rw [List.set_set]
               refine Wp.again ⟨rfl,rfl,rfl,rfl,rfl,rfl,?_,?_,?_,?_,?_⟩ hm4
               ·
                show (setAt (setAt r4 (I.nat k4) (I.of .i64 0)) (I.nat k4) (rd0 d4 k4.val.toNat)).length = _
                rw [e,List.length_set]; exact hl4
               ·
                show b9X (setAt (setAt r4 (I.nat k4) (I.of .i64 0)) (I.nat k4) (rd0 d4 k4.val.toNat))
                rw [e]; exact st.2
               ·
                show 0 ≤ (I.add k4 (I.of .i64 1)).val; omega
               ·
                show (I.add k4 (I.of .i64 1)).val ≤ _; omega
               ·
                show bv ((setAt (setAt r4 (I.nat k4) (I.of .i64 0)) (I.nat k4) (rd0 d4 k4.val.toNat)).take (I.add k4 (I.of .i64 1)).val.toNat) = bv (d4.take (I.add k4 (I.of .i64 1)).val.toNat)
                rw [e,show (I.add k4 (I.of .i64 1)).val.toNat = k4.val.toNat + 1 by omega]
                exact st.1
              ·
               have hkd:=niff_ltb.1 h
               have hkd:(I.ofNat .i64 (a0G d4)).val ≤ k4.val:=hkd
               clear h
               have hz:rd0 d4 k4.val.toNat = I.of .i64 0:=c4H _ _ _ (by omega)
               rw [hz] at st
               have e:setAt r4 (I.nat k4) (I.of .i64 0) = r4.set k4.val.toNat (I.of .i64 0):=a7X _ _ _
               refine Wp.again ⟨rfl,rfl,rfl,rfl,rfl,rfl,?_,?_,?_,?_,?_⟩ hm4
               ·
                show (setAt r4 (I.nat k4) (I.of .i64 0)).length = _
                rw [e,List.length_set]; exact hl4
               ·
                show b9X (setAt r4 (I.nat k4) (I.of .i64 0))
                rw [e]; exact st.2
               ·
                show 0 ≤ (I.add k4 (I.of .i64 1)).val; omega
               ·
                show (I.add k4 (I.of .i64 1)).val ≤ _; omega
               ·
                show bv ((setAt r4 (I.nat k4) (I.of .i64 0)).take (I.add k4 (I.of .i64 1)).val.toNat) = bv (d4.take (I.add k4 (I.of .i64 1)).val.toNat)
                rw [e,show (I.add k4 (I.of .i64 1)).val.toNat = k4.val.toNat + 1 by omega]
                exact st.1
             ·
              have hkg:=niff_ltb.1 h
              have hkg:(I.ofNat .i64 (a0G r4)).val ≤ k4.val:=hkg
              clear h
              have hk:k4.val.toNat = b4.length + 1:=by omega
              rw [hk,List.take_of_length_le (by omega),List.take_of_length_le hdlen,hdB.val] at hbk
              have hqi:=(b5H hM.qd i4.val.toNat)
              have hqn:=hqi.nat
              have hq0:=hqi.1
              have hlow:=hM.low
              have hqlen:=hM.ql
              have hsb:=g0U bit4 (by omega) hb15
              have hpw:2 ^ bit4.val.toNat ≤ 2 ^ 15:=Nat.pow_le_pow_right (by decide) (by omega)
              have hqb:(rd0 q4 i4.val.toNat).nat + 2 ^ bit4.val.toNat < 65536:=by
               have e1:65536 = 2 ^ (bit4.val.toNat + 1) * 2 ^ (15 - bit4.val.toNat):=by rw [← Nat.pow_add,show bit4.val.toNat + 1 + (15 - bit4.val.toNat) = 16 by omega]
               have e2:=Nat.div_add_mod (rd0 q4 i4.val.toNat).nat (2 ^ (bit4.val.toNat + 1))
               rw [hlow,Nat.add_zero] at e2
               have e3:(rd0 q4 i4.val.toNat).nat / 2 ^ (bit4.val.toNat + 1) + 1 ≤ 2 ^ (15 - bit4.val.toNat):=by
                rcases Nat.lt_or_ge ((rd0 q4 i4.val.toNat).nat / 2 ^ (bit4.val.toNat + 1)) (2 ^ (15 - bit4.val.toNat)) with h1 | h1
                ·
                 exact h1
                ·
                 exfalso
                 have:=Nat.mul_le_mul_left (2 ^ (bit4.val.toNat + 1)) h1
                 omega
               have e4:=Nat.mul_le_mul_left (2 ^ (bit4.val.toNat + 1)) e3
               rw [Nat.mul_add,Nat.mul_one,← e1,e2,Nat.pow_succ] at e4
               have:0 < 2 ^ bit4.val.toNat:=Nat.pow_pos (by decide)
               omega
              have hv:(I.add (rd0 q4 i4.val.toNat) (I.shl (I.of .i64 1) (I.conv .u64 bit4))).val = (rd0 q4 i4.val.toNat).val + ((2 ^ bit4.val.toNat:Nat):Int):=by rw [a5Q (by rw [hsb]; omega),hsb]
              generalize hV:I.add (rd0 q4 i4.val.toNat) (I.shl (I.of .i64 1) (I.conv .u64 bit4)) = v at hv
              have hvn:v.nat = (rd0 q4 i4.val.toNat).nat + 2 ^ bit4.val.toNat:=by unfold I.nat at hqn ⊢; omega
              have hvd:DigOk v:=⟨by omega,by omega⟩
              have bi:inB i4 (a0G q4) = true:=iff_inB.2 ⟨by omega,by show i4.val < ((q4.length:Nat):Int); omega⟩
              have st:=e4O (e:=1) (q':=q4.set i4.val.toNat v) (r':=r4) hM (by omega) (by rw [hbk,hbe]; omega) hd4 (by omega) (by simpa using hqlen) (c2W hM.qd _ hvd) (fun t ht=>by rw [c7Z _ _ _ _ (by omega)]; exact hM.zero t ht) (by rw [d3Q _ _ _ (by omega),hvn,Nat.one_mul]) (c2Y _ _ _)
              refine Wp.done (Wp.brnT bi (Wp.brnT (c3B _) (Wp.brnT bi ?_)))
              refine Wp.again ⟨rfl,rfl,rfl,?_,?_,hl4,?_⟩ hmb
              ·
               show -1 ≤ (I.sub bit4 (I.of .i64 1)).val; omega
              ·
               show (I.sub bit4 (I.of .i64 1)).val ≤ 15; omega
              ·
               show DivMid a4 (setAt q4 (I.nat i4) (I.add (rd0 q4 i4.val.toNat) (I.shl (I.of .i64 1) (I.conv .u64 bit4)))) r4 n i4.val.toNat ((I.sub bit4 (I.of .i64 1)).val + 1).toNat
               rw [hV,a7X,esb]
               exact st
            ·
             exact ⟨rfl,rfl,rfl,rfl,rfl,rfl,by show s3.length = _; omega,hsd,by show 0 ≤ (I.of .i64 0).val; decide,by show (I.of .i64 0).val ≤ _; omega,rfl⟩
            ·
             exact b8G _ (by show ((b3.length + 1:Int) - (I.of .i64 0).val).toNat < _; omega)
          ·
           refine ⟨rfl,rfl,rfl,rfl,rfl,rfl,?_,?_,?_⟩
           ·
            show 0 ≤ (I.ofNat .i64 (a0G s3)).val; omega
           ·
            show (I.ofNat .i64 (a0G s3)).val ≤ _; omega
           ·
            show bv (s3.take (I.ofNat .i64 (a0G s3)).val.toNat) = _
            rw [hols,Int.toNat_natCast,List.take_length]
          ·
           refine b8G _ ?_
           show (I.ofNat .i64 (a0G s3)).val.toNat < _
           omega
       ·
        refine ⟨rfl,rfl,rfl,rfl,rfl,rfl,?_,?_,?_⟩
        ·
         show 0 ≤ (I.ofNat .i64 (a0G s)).val; omega
        ·
         show (I.ofNat .i64 (a0G s)).val ≤ _; omega
        ·
         show bv (s.take (I.ofNat .i64 (a0G s)).val.toNat) = _
         rw [hols,Int.toNat_natCast,List.take_length]
       ·
        refine b8G _ ?_
        show (I.ofNat .i64 (a0G s)).val.toNat < _
        omega
     ·
      refine ⟨rfl,rfl,rfl,rfl,rfl,?_,by show 0 ≤ (I.of .i64 0).val; decide,by show (I.of .i64 0).val ≤ (r.length:Int); omega,?_⟩
      ·
       show 0 ≤ (I.and (I.shr (rd0 a1 i1.val.toNat) (I.conv .u64 bit)) (I.of .i64 1)).val
       rw [hbv]; omega
      ·
       show DblInv r bv0 (I.nat (I.and (I.shr (rd0 a1 i1.val.toNat) (I.conv .u64 bit)) (I.of .i64 1))) (I.of .i64 0).val.toNat r
       have e:I.nat (I.and (I.shr (rd0 a1 i1.val.toNat) (I.conv .u64 bit)) (I.of .i64 1)) = bv0:=by
        show (I.and (I.shr (rd0 a1 i1.val.toNat) (I.conv .u64 bit)) (I.of .i64 1)).val.toNat = _
        rw [hbv,Int.toNat_natCast]
       rw [e]
       refine ⟨rfl,hM.rd,rfl,hbv1,?_⟩
       have e0:(I.of .i64 0).val.toNat = 0:=rfl
       rw [e0]
       simp [bv]
     ·
      exact b8G _ (by show ((r.length:Int) - (I.of .i64 0).val).toNat < _; omega)
    ·
     have hbz:=niff_leb.1 h
     have hbz:bit.val < (I.of .i64 0).val:=hbz
     clear h
     have e0:(bit.val + 1).toNat = 0:=by omega
     rw [e0] at hM
     refine Wp.done (Wp.again ⟨rfl,rfl,?_,?_,hrl,?_⟩ hmi)
     ·
      show -1 ≤ (I.sub i1 (I.of .i64 1)).val; omega
     ·
      show (I.sub i1 (I.of .i64 1)).val < _; omega
     ·
      show DivOut a1 q r n ((I.sub i1 (I.of .i64 1)).val + 1).toNat
      rw [show ((I.sub i1 (I.of .i64 1)).val + 1).toNat = i1.val.toNat by omega]
      exact mid_end hM
   ·
    have hz:=niff_leb.1 h
    have hz:i.val < (I.of .i64 0).val:=hz
    clear h
    have e0:(i.val + 1).toNat = 0:=by omega
    rw [e0] at hI
    have heq:=hI.eq
    have hlt:=hI.lt
    have hqd:=hI.qd
    have hrd:=hI.rd
    have hql:=hI.ql
    simp only [List.drop_zero] at heq
    rw [ha.val] at heq
    have hQ:bv q0 = m / n:=by rw [heq,Nat.mul_comm,Nat.mul_add_div (by omega),Nat.div_eq_of_lt hlt,Nat.add_zero]
    have hR:bv r0 = m % n:=by rw [heq,Nat.mul_comm,Nat.mul_add_mod,Nat.mod_eq_of_lt hlt]
    have holq:(I.ofNat .i64 (a0G q0)).val = q0.length:=a3F (by show q0.length < _; omega)
    have holr0:(I.ofNat .i64 (a0G r0)).val = r0.length:=a3F (by show r0.length < _; omega)
    have hq2:q0.length ≤ 1073741824:=by omega
    have hr2:r0.length ≤ 1073741824:=by omega
    clear heq hI hrl hlt
    refine Wp.done ?_
    refine Wp.iter (fun x=>x.2.1 = q0∧x.2.2.1 = r0∧0 ≤ x.1.1.val∧x.1.1.val ≤ (q0.length:Int)∧bv (q0.take x.1.1.val.toNat) = bv q0) (fun x=>x.1.1.val.toNat) ?_ ?_ ?_
    ·
     rintro ⟨⟨j,⟨⟩⟩,q1,r1,⟨⟩⟩ ⟨k0,k1,hj0,hj1,hbt⟩
     simp only at k0 k1 hj0 hj1 hbt
     subst k0 k1
     refine Wp.brn (fun h=>?_) (fun h=>?_)
     have hjp:=iff_ltb.1 h
     have hjp:(I.of .i64 0).val < j.val:=hjp
     clear h
     obtain ⟨sj,bj,z1,z2⟩:=d7Q (l:=q1) (j:=j) hqd hjp hj1 hq2 hbt
     refine Wp.brnT bj (Wp.brn (fun h2=>?_) (fun h2=>?_))
     ·
      refine Wp.again ⟨rfl,rfl,?_,?_,z1 h2⟩ ?_
      ·
       show 0 ≤ (I.sub j (I.of .i64 1)).val; omega
      ·
       show (I.sub j (I.of .i64 1)).val ≤ _; omega
      ·
       show (I.sub j (I.of .i64 1)).val.toNat < j.val.toNat
       omega
     have hB:=z2 h2
     clear z1 z2 h2 bj sj
     rotate_left
     have hjz:=niff_ltb.1 h
     have hjz:j.val ≤ (I.of .i64 0).val:=hjz
     clear h
     have hB:=c9Q (l:=q1) (j:=j) hj0 (by omega) hbt
     all_goals
      refine Wp.done (Wp.brnT (e4S hj0 hj1) ?_)
      have hQB:=hB
      clear hB
      generalize a3W q1 0 (I.nat j) = ql2 at hQB
      clear hbt hj0 hj1
      refine Wp.iter (fun x=>x.1.2.1 = ql2∧x.2.1 = r1∧0 ≤ x.1.1.val∧x.1.1.val ≤ (r1.length:Int)∧bv (r1.take x.1.1.val.toNat) = bv r1) (fun x=>x.1.1.val.toNat) ?_ ?_ ?_
      ·
       rintro ⟨⟨j,ql2,⟨⟩⟩,r1,⟨⟩⟩ ⟨k0,k1,hj0,hj1,hbt⟩
       simp only at k0 k1 hj0 hj1 hbt
       subst k0 k1
       refine Wp.brn (fun h=>?_) (fun h=>?_)
       have hjp:=iff_ltb.1 h
       have hjp:(I.of .i64 0).val < j.val:=hjp
       clear h
       obtain ⟨sj,bj,z1,z2⟩:=d7Q (l:=r1) (j:=j) hrd hjp hj1 hr2 hbt
       refine Wp.brnT bj (Wp.brn (fun h2=>?_) (fun h2=>?_))
       ·
        refine Wp.again ⟨rfl,rfl,?_,?_,z1 h2⟩ ?_
        ·
         show 0 ≤ (I.sub j (I.of .i64 1)).val; omega
        ·
         show (I.sub j (I.of .i64 1)).val ≤ _; omega
        ·
         show (I.sub j (I.of .i64 1)).val.toNat < j.val.toNat
         omega
       have hB:=z2 h2
       clear z1 z2 h2 bj sj
       rotate_left
       have hjz:=niff_ltb.1 h
       have hjz:j.val ≤ (I.of .i64 0).val:=hjz
       clear h
       have hB:=c9Q (l:=r1) (j:=j) hj0 (by omega) hbt
       all_goals
        refine Wp.done (Wp.brnT (e4S hj0 hj1) ?_)
        refine ⟨_,_,rfl,?_,?_⟩
        ·
         show IsB ql2 (m / n)
         rw [← hQ]; exact hQB
        ·
         show IsB (a3W r1 0 (I.nat j)) (m % n)
         rw [← hR]; exact hB
      ·
       refine ⟨rfl,rfl,?_,?_,?_⟩
       ·
        show 0 ≤ (I.ofNat .i64 (a0G r1)).val; omega
       ·
        show (I.ofNat .i64 (a0G r1)).val ≤ _; omega
       ·
        show bv (r1.take (I.ofNat .i64 (a0G r1)).val.toNat) = _
        rw [holr0,Int.toNat_natCast,List.take_length]
      ·
       refine b8G _ ?_
       show (I.ofNat .i64 (a0G r1)).val.toNat < _
       omega
    ·
     refine ⟨rfl,rfl,?_,?_,?_⟩
     ·
      show 0 ≤ (I.ofNat .i64 (a0G q0)).val; omega
     ·
      show (I.ofNat .i64 (a0G q0)).val ≤ _; omega
     ·
      show bv (q0.take (I.ofNat .i64 (a0G q0)).val.toNat) = _
      rw [holq,Int.toNat_natCast,List.take_length]
    ·
     refine b8G _ ?_
     show (I.ofNat .i64 (a0G q0)).val.toNat < _
     omega
  ·
   have hsub1:(I.sub (I.ofNat .i64 (a0G a)) (I.of .i64 1)).val = a.length - 1:=by rw [a9Z (by omega)]; omega
   refine ⟨rfl,rfl,?_,?_,?_,?_⟩
   ·
    show -1 ≤ (I.sub (I.ofNat .i64 (a0G a)) (I.of .i64 1)).val; omega
   ·
    show (I.sub (I.ofNat .i64 (a0G a)) (I.of .i64 1)).val < _; omega
   ·
    show (c0C (I.nat (I.add (I.ofNat .i64 (a0G b)) (I.of .i64 1))) (I.of .i64 0)).length = _
    rw [b2Q,hbn]
   ·
    show DivOut a (c0C (I.nat (I.ofNat .i64 (a0G a))) (I.of .i64 0)) (c0C (I.nat (I.add (I.ofNat .i64 (a0G b)) (I.of .i64 1))) (I.of .i64 0)) n ((I.sub (I.ofNat .i64 (a0G a)) (I.of .i64 1)).val + 1).toNat
    rw [hsub1,hn,show ((a.length:Int) - 1 + 1).toNat = a.length by omega]
    refine ⟨b2Q _ _,c1X _,c1X _,by rw [d5G]; omega,fun s _=>d7L _ _,?_⟩
    rw [List.drop_of_length_le (Nat.le_refl _),List.drop_of_length_le (by rw [b2Q]; omega),d5G]
    simp [bv]
  ·
   have hsub1:(I.sub (I.ofNat .i64 (a0G a)) (I.of .i64 1)).val = a.length - 1:=by rw [a9Z (by omega)]; omega
   exact b8G _ (by show ((I.sub (I.ofNat .i64 (a0G a)) (I.of .i64 1)).val + 1).toNat < _; omega)
 exact key.out
end Sym

/- Signed numbers: the law of quotients. -/
namespace Sym
open Go
theorem e2L {s:SB} {z:Int} {l:List Dg} {d:Nat} (hs:IsSB s z) (hl:IsB l d) (hd:d ≠ 0) (hz:Bd z.natAbs) (hdl:l.length ≤ 900000):∃ r:SB,a4S K0 ((s,l,()),()) = some ((r,()),())∧IsSB r (z / (d:Int)):=by
 have key:Wp (fun o=>∃ r:SB,o = some ((r,()),())∧IsSB r (z / (d:Int))) (a4S K0 ((s,l,()),())):=by
  unfold a4S
  obtain ⟨q,r,hqr,hQ,hR⟩:∃ (q r:List Dg),a3O K0 ((s.2.1,l,()),()) = some ((q,r,()),())∧IsB q (z.natAbs / d)∧IsB r (z.natAbs % d):=c4I hs.abs hl hd (Bd.len hs.abs hz) hdl
  have hqb:Bd (z.natAbs / d):=Nat.lt_of_le_of_lt (Nat.div_le_self _ _) hz
  have hqb1:z.natAbs / d + 1 < 65536 ^ 65:=by
   have h1:z.natAbs / d < 65536 ^ 64:=hqb
   have h2:65536 ^ 64 < 65536 ^ 65:=by decide
   omega
  have hrb:Bd (z.natAbs % d):=Nat.lt_of_le_of_lt (Nat.mod_le _ _) hz
  have hql:=Bd.len hQ hqb
  have hrl:=Bd.len hR hrb
  have hol:(I.ofNat .i64 (a0G r)).val = r.length:=a3F (by show r.length < _; omega)
  have c0:(I.of .i64 0).val = 0:=rfl
  have hrp:=f1R hR
  have hbit:I.ltb (I.of .i64 0) (I.ofNat .i64 (a0G r)) = decide (z.natAbs % d ≠ 0):=by
   unfold I.ltb
   rw [c0,hol]
   have:((0:Int) < (r.length:Int)) ↔ z.natAbs % d ≠ 0:=by omega
   simp only [this]
  refine Wp.optF hqr ?_
  refine Wp.jn (fun x=>x.1.1 = q∧x.1.2.1 = (s.1 && decide (z.natAbs % d ≠ 0))∧x.2.1.1 = s.1) ?_ ?_
  ·
   rintro ⟨⟨q',b,⟨⟩⟩,⟨n,l',⟨⟩⟩,r',⟨⟩⟩ ⟨e1,e2,e3⟩
   simp only at e1 e2 e3
   subst e1 e2
   have hneg:=hs.neg
   by_cases hz0:z < 0
   ·
    have hn:n = true:=by rw [e3,hneg]; exact decide_eq_true hz0
    have hdiv:z / (d:Int) = if z.natAbs % d = 0 then -((z.natAbs / d:Nat):Int) else -((z.natAbs / d + 1:Nat):Int):=by
     have h1:=g1Y z.natAbs d (by omega)
     have h2:-(z.natAbs:Int) = z:=by omega
     rw [h2] at h1
     exact h1
    by_cases hm:z.natAbs % d = 0
    ·
     rw [if_pos hm] at hdiv
     refine Wp.brnF (by show (s.1 && decide (z.natAbs % d ≠ 0)) = false; simp [hm]) ?_
     obtain ⟨t,ht,hT⟩:=b7J n hQ hql
     refine Wp.optF ht ⟨t,rfl,?_⟩
     rw [hdiv]
     subst hn
     exact hT
    ·
     rw [if_neg hm] at hdiv
     refine Wp.brnT (by show (s.1 && decide (z.natAbs % d ≠ 0)) = true; rw [hneg,decide_eq_true hz0]; simp [hm]) ?_
     obtain ⟨o,ho,hO⟩:=a1P (I.of .u64 1)
     refine Wp.optF ho ?_
     have h1:(I.of .u64 1).nat = 1:=rfl
     rw [h1] at hO
     obtain ⟨q2,hq2,hQ2⟩:=a9P hQ hO hql (Bd.len hO (by unfold Bd; decide))
     refine Wp.optF hq2 ?_
     obtain ⟨t,ht,hT⟩:=b7J n hQ2 (len_small' hQ2 65 hqb1 (by decide))
     refine Wp.optF ht ⟨t,rfl,?_⟩
     rw [hdiv]
     subst hn
     exact hT
   ·
    have hn:n = false:=by rw [e3,hneg]; exact decide_eq_false hz0
    refine Wp.brnF (by show (s.1 && decide (z.natAbs % d ≠ 0)) = false; rw [hneg,decide_eq_false hz0]; rfl) ?_
    obtain ⟨t,ht,hT⟩:=b7J n hQ hql
    refine Wp.optF ht ⟨t,rfl,?_⟩
    have h2:z / (d:Int) = ((z.natAbs / d:Nat):Int):=by
     rw [Int.natCast_ediv]
     congr 1
     omega
    rw [h2]
    subst hn
    exact hT
  ·
   intro j hj
   cases hs1:s.1 with
   | false=>exact Wp.brnF rfl (hj _ ⟨rfl,by rw [hs1]; rfl,rfl⟩)
   | true=>exact Wp.brnT rfl (hj _ ⟨rfl,by rw [hs1]; exact hbit,rfl⟩)
 exact key.out
end Sym

/- Parameters: which are valid. -/
namespace Sym
open Go
abbrev Prm:Type:=I .u64 × I .u64 × I .u64 × U × I .u64 × U × I .u64 × U × I .u64 × I .u64 × I .u64 × I .u64 × Unit
def h0J (p:Prm):Nat→U
 | 1=>d2K p.1
 | 2=>d2K p.2.1
 | 3=>d2K p.2.2.1
 | 4=>p.2.2.2.1
 | 5=>d2K p.2.2.2.2.1
 | 6=>p.2.2.2.2.2.1
 | 7=>d2K p.2.2.2.2.2.2.1
 | 8=>p.2.2.2.2.2.2.2.1
 | 9=>d2K p.2.2.2.2.2.2.2.2.1
 | 10=>d2K p.2.2.2.2.2.2.2.2.2.1
 | 11=>d2K p.2.2.2.2.2.2.2.2.2.2.1
 | _=>d2K p.2.2.2.2.2.2.2.2.2.2.2.1
def loK (p:Prm):Nat→I .u64
 | 1=>I.of .u64 1
 | 2=>I.of .u64 0
 | 3=>I.of .u64 1
 | 4=>I.of .u64 1
 | 5=>I.of .u64 1
 | 6=>I.of .u64 0
 | 7=>I.of .u64 0
 | 8=>I.of .u64 0
 | 9=>I.of .u64 1
 | 10=>I.of .u64 1
 | 11=>I.of .u64 0
 | _=>p.2.2.2.2.2.2.2.2.2.2.1
def hiK:Nat→I .u64
 | 1=>I.of .u64 1099511627776
 | 2=>I.of .u64 1048576
 | 3=>I.of .u64 1048576
 | 4=>I.of .u64 18446744073709551615
 | 5=>I.of .u64 1099511627776
 | 6=>I.of .u64 18446744073709551615
 | 7=>I.of .u64 10000
 | 8=>I.of .u64 18446744073709551615
 | 9=>I.of .u64 1099511627776
 | 10=>I.of .u64 1048576
 | 11=>I.of .u64 1048576
 | _=>I.of .u64 16777216
def okK (p:Prm) (k:Nat):Bool:=decide ((loK p k).nat ≤ (h0J p k).val∧(h0J p k).val ≤ (hiK k).nat)
def fiF (p:Prm):Nat→Nat→I .i64
 | 0,_=>I.of .i64 0
 | n + 1,k=>if okK p k = true then fiF p n (k + 1) else I.of .i64 (k:Int)
def fiS (p:Prm):I .i64:=fiF p 12 1
theorem g8T (a b c:I .u64):a3P K0 ((a,b,c,()),()) = some ((decide (b.nat ≤ a.nat∧a.nat ≤ c.nat),()),()):=by
 have ha:=a2F a
 have hb:=a2F b
 have hc:=a2F c
 refine Wp.out (T:=fun o=>o = some ((decide (b.nat ≤ a.nat∧a.nat ≤ c.nat),()),())) ?_
 unfold a3P
 refine Wp.brn (fun h=>?_) (fun h=>?_)
 ·
  rw [iff_leb] at h
  show some ((I.leb a c,()),()) = _
  have:I.leb a c = decide (b.nat ≤ a.nat∧a.nat ≤ c.nat):=by
   by_cases h2:a.nat ≤ c.nat
   ·
    rw [decide_eq_true (by omega),iff_leb]; omega
   ·
    rw [decide_eq_false (by omega),niff_leb]; omega
  rw [this]
 ·
  rw [niff_leb] at h
  show some ((false,()),()) = _
  rw [decide_eq_false (by omega)]
theorem d0D (a:U):a7J K0 ((a,()),()) = some (if a.val < 18446744073709551616 then ((a.1,true,()),()) else ((I.of .u64 0,false,()),())):=by
 refine Wp.out (T:=fun o=>o = some (if a.val < 18446744073709551616 then ((a.1,true,()),()) else ((I.of .u64 0,false,()),()))) ?_
 have h0:=a3V a.1
 have n1:=a2F a.2.1
 have n2:=a2F a.2.2.1
 have n3:=a2F a.2.2.2.1
 have hv:a.val = a.1.nat + 18446744073709551616 * (a.2.1.nat + 18446744073709551616 * (a.2.2.1.nat + 18446744073709551616 * a.2.2.2.1.nat)):=rfl
 have e0:(I.of .u64 0).val = 0:=rfl
 unfold a7J
 refine Wp.brn (fun h=>?_) (fun h=>?_)
 ·
  rw [iff_neb,e0] at h; replace h:a.2.1.val ≠ 0:=h
  show some ((I.of .u64 0,false,()),()) = _
  rw [if_neg (by omega)]
 ·
  rw [niff_neb,e0] at h; replace h:a.2.1.val = 0:=h
  refine Wp.brn (fun h2=>?_) (fun h2=>?_)
  ·
   rw [iff_neb,e0] at h2; replace h2:a.2.2.1.val ≠ 0:=h2
   show some ((I.of .u64 0,false,()),()) = _
   rw [if_neg (by omega)]
  ·
   rw [niff_neb,e0] at h2; replace h2:a.2.2.1.val = 0:=h2
   refine Wp.brn (fun h3=>?_) (fun h3=>?_)
   ·
    rw [iff_neb,e0] at h3; replace h3:a.2.2.2.1.val ≠ 0:=h3
    show some ((I.of .u64 0,false,()),()) = _
    rw [if_neg (by omega)]
   ·
    rw [niff_neb,e0] at h3; replace h3:a.2.2.2.1.val = 0:=h3
    show some ((a.1,true,()),()) = _
    rw [if_pos (by omega)]
theorem c8E (a:U) (b:I .u64):a6A K0 ((a,b,()),()) = some ((decide (b.nat ≤ a.val∧a.val ≤ 18446744073709551615),()),()):=by
 refine Wp.out (T:=fun o=>o = some ((decide (b.nat ≤ a.val∧a.val ≤ 18446744073709551615),()),())) ?_
 have hb:=a2F b
 have h0:=a2F a.1
 have h0':=a3V a.1
 have hv:a.val = a.1.nat + 18446744073709551616 * (a.2.1.nat + 18446744073709551616 * (a.2.2.1.nat + 18446744073709551616 * a.2.2.2.1.nat)):=rfl
 unfold a6A
 refine Wp.optF (d0D a) ?_
 by_cases h:a.val < 18446744073709551616
 ·
  rw [if_pos h]
  refine Wp.brnT rfl ?_
  show some ((I.leb b a.1,()),()) = _
  have:I.leb b a.1 = decide (b.nat ≤ a.val∧a.val ≤ 18446744073709551615):=by
   by_cases h2:b.nat ≤ a.1.nat
   ·
    rw [decide_eq_true (by omega),iff_leb]; omega
   ·
    rw [decide_eq_false (by omega),niff_leb]; omega
  rw [this]
 ·
  rw [if_neg h]
  refine Wp.brnF rfl ?_
  show some ((false,()),()) = _
  rw [decide_eq_false (by omega)]
theorem f7B (a b c:I .u64):a3P K0 ((a,b,c,()),()) = some ((decide (b.nat ≤ (d2K a).val∧(d2K a).val ≤ c.nat),()),()):=by
 rw [g8T,c5B]
theorem g5L {R:Type} (b:Bool) (x y:R):brn (a3I b) x y = if b = true then y else x:=by cases b <;> rfl
theorem c9G (p:Prm):a6X K0 ((p,()),()) = some ((fiS p,()),()):=by
 refine Wp.out (T:=fun o=>o = some ((fiS p,()),())) ?_
 unfold a6X
 refine Wp.optF (f7B _ _ _) (Wp.optF (f7B _ _ _) (Wp.optF (f7B _ _ _) (Wp.optF (c8E _ _) (Wp.optF (f7B _ _ _) (Wp.optF (c8E _ _) (Wp.optF (f7B _ _ _) (Wp.optF (c8E _ _) (Wp.optF (f7B _ _ _) (Wp.optF (f7B _ _ _) (Wp.optF (f7B _ _ _) (Wp.optF (f7B _ _ _) ?_)))))))))))
 have step:∀ (n k:Nat) (r:Option (((I .i64) × Unit) × Unit)),r = some ((fiF p n (k + 1),()),())→brn (a3I (okK p k)) (some ((I.of .i64 (k:Int),()),())) r = some ((fiF p (n + 1) k,()),()):=by
  intro n k r hr
  rw [g5L,hr]
  show _ = some ((if okK p k = true then fiF p n (k + 1) else I.of .i64 (k:Int),()),())
  split <;> rfl
 exact step 11 1 _ (step 10 2 _ (step 9 3 _ (step 8 4 _ (step 7 5 _ (step 6 6 _ (step 5 7 _ (step 4 8 _ (step 3 9 _ (step 2 10 _ (step 1 11 _ (step 0 12 _ rfl)))))))))))
def a7R (p:Prm):Bool:=I.eqb (fiS p) (I.of .i64 0)
theorem b6B (p:Prm):a3Q K0 ((p,()),()) = some ((a7R p,()),()):=by
 refine Wp.out (T:=fun o=>o = some ((a7R p,()),())) ?_
 unfold a3Q
 exact Wp.optF (c9G p) rfl
theorem e4D (p:Prm):∀ (n k:Nat),1 ≤ k→k + n ≤ 14→(I.eqb (fiF p n k) (I.of .i64 0) = true ↔ ∀ j,k ≤ j→j < k + n→okK p j = true)
 | 0,k,h1,h2=>⟨fun _ j _ _=>by omega,fun _=>rfl⟩
 | n + 1,k,h1,h2=>by
  show I.eqb (if okK p k = true then fiF p n (k + 1) else I.of .i64 (k:Int)) (I.of .i64 0) = true ↔ _
  by_cases h:okK p k = true
  ·
   rw [if_pos h,e4D p n (k + 1) (by omega) (by omega)]
   constructor
   ·
    intro hj j h3 h4
    by_cases hjk:j = k
    ·
     subst hjk; exact h
    ·
     exact hj j (by omega) (by omega)
   ·
    intro hj j h3 h4
    exact hj j (by omega) (by omega)
  ·
   rw [if_neg h,iff_eqb,b7K ⟨by omega,by omega⟩]
   constructor
   ·
    intro h3
    replace h3:(k:Int) = 0:=h3
    omega
   ·
    intro hj
    exact absurd (hj k (by omega) (by omega)) h
theorem c8F (p:Prm):a7R p = true ↔ ∀ j,1 ≤ j→j < 13→okK p j = true:=e4D p 12 1 (by omega) (by omega)
theorem e5X {p:Prm} (h:a7R p = true):1 ≤ p.2.2.2.2.2.2.2.2.1.nat∧p.2.2.2.2.2.2.2.2.1.nat ≤ 1099511627776∧1 ≤ p.2.2.2.2.2.2.2.2.2.1.nat:=by
 rw [c8F] at h
 have h9:=of_decide_eq_true (h 9 (by omega) (by omega))
 have h10:=of_decide_eq_true (h 10 (by omega) (by omega))
 replace h9:(I.of .u64 1).nat ≤ (d2K p.2.2.2.2.2.2.2.2.1).val∧(d2K p.2.2.2.2.2.2.2.2.1).val ≤ (I.of .u64 1099511627776).nat:=h9
 replace h10:(I.of .u64 1).nat ≤ (d2K p.2.2.2.2.2.2.2.2.2.1).val∧(d2K p.2.2.2.2.2.2.2.2.2.1).val ≤ (I.of .u64 1048576).nat:=h10
 rw [c5B] at h9 h10
 have e1:(I.of .u64 1).nat = 1:=rfl
 have e2:(I.of .u64 1099511627776).nat = 1099511627776:=rfl
 rw [e1] at h9 h10
 rw [e2] at h9
 exact ⟨h9.1,h9.2,h10.1⟩
end Sym

/- The price of a unit: what the program computes. -/
namespace Sym
open Go
def d0G (n o:Int) (u E J:Nat):S × I .i64 :=
 if (n - o).natAbs < U.top then
  if (-n / (E:Int) - (n - o) / (u:Int)).natAbs < U.top then
   if ((-n / (E:Int) - (n - o) / (u:Int)) * (u:Int)).natAbs < U.top then (S.of ((-n / (E:Int) - (n - o) / (u:Int)) * (u:Int) / ((E / J + u:Nat):Int)),I.of .i64 0)
   else (S.of 0,I.of .i64 4)
  else (S.of 0,I.of .i64 4)
 else (S.of 0,I.of .i64 4)
theorem b3F {c:Bool} (h:a3I c = true):c = false:=by
 cases c
 ·
  rfl
 ·
  cases h
theorem b3D {c:Bool} (h:a3I c = false):c = true:=by
 cases c
 ·
  cases h
 ·
  rfl
def Prm.eq (p:Prm):I .u64:=p.2.2.2.2.2.2.2.2.1
def Prm.inertia (p:Prm):I .u64:=p.2.2.2.2.2.2.2.2.2.1
def c2B (a b:S) (u:I .u64) (p:Prm):S × I .i64 :=
 if a7R p = true then
  if b0C a = true then
   if b0C b = true then
    if u.nat = 0 then (S.of 0,I.of .i64 2)
    else d0G a.int b.int u.nat (Prm.eq p).nat (Prm.inertia p).nat
   else (S.of 0,I.of .i64 2)
  else (S.of 0,I.of .i64 2)
 else (S.of 0,I.of .i64 15)
theorem f3O {a b:S} {u:I .u64} {p:Prm} (hp:a7R p = true) (ha:b0C a = true) (hb:b0C b = true) (hu:u.nat ≠ 0):c2B a b u p = d0G a.int b.int u.nat (Prm.eq p).nat (Prm.inertia p).nat:=by
 unfold c2B
 rw [if_pos hp,if_pos ha,if_pos hb,if_neg hu]
theorem c9Z (u:I .u64):I.eqb u (I.of .u64 0) = true ↔ u.nat = 0:=by
 rw [iff_eqb]
 have:=a2F u
 have e0:(I.of .u64 0).val = 0:=rfl
 omega
def c2U (c:U) (a b:S) (u:I .u64) (p:Prm):U × I .i64 :=
 if a7R p = true then
  if b0C a = true then
   if b0C b = true then
    if u.nat = 0 then (c,I.of .i64 0)
    else if I.neb (c2B a b u p).2 (I.of .i64 0) = true then (U.of 0,(c2B a b u p).2) else d3M c (c2B a b u p).1
   else (U.of 0,I.of .i64 2)
  else (U.of 0,I.of .i64 2)
 else (U.of 0,I.of .i64 15)
end Sym

/- The price of a unit: the laws over valid parameters. -/
namespace Sym
open Go
theorem c4U (a b:I .u64) (h:a.nat + b.nat < 18446744073709551616):(I.add a b).nat = a.nat + b.nat:=by
 rw [g0N]; exact Nat.mod_eq_of_lt h
end Sym

/- What the fees rest on. -/

/- The compression: what both programs compute. -/
namespace Sym
open Go
abbrev B8:Type:=I .u8
def at8 (b:List B8) (i:Nat):B8:=rdL (I.of .u8 0) b i
def d2N (b:List B8) (p d:Nat):Nat→Nat→Nat
 | 0,n=>n
 | f + 1,n=>if I.eqb (at8 b (p + n)) (at8 b (p + n - d)) = true then d2N b p d f (n + 1) else n
theorem e1H (b:List B8) (p d:Nat):∀ f n,n ≤ d2N b p d f n∧d2N b p d f n ≤ n + f
 | 0,n=>⟨Nat.le_refl _,Nat.le_refl _⟩
 | f + 1,n=>by
  have:=e1H b p d f (n + 1)
  show n ≤ (if I.eqb (at8 b (p + n)) (at8 b (p + n - d)) = true then d2N b p d f (n + 1) else n)∧(if I.eqb (at8 b (p + n)) (at8 b (p + n - d)) = true then d2N b p d f (n + 1) else n) ≤ _
  split <;> omega
theorem e0B (b:List B8) (p d:Nat) (hb:b.length ≤ 1073741824) (hm:p ≤ b.length) (hd:1 ≤ d) (hdp:d ≤ p):a7U K0 ((b,i6 p,i6 d,()),()) = some ((i6 (d2N b p d (min 131 (b.length - p)) 0),()),()):=by
 obtain ⟨m,em⟩:∃ m,m = min 131 (b.length - p):=⟨_,rfl⟩
 rw [← em]
 refine Wp.out (T:=fun o=>o = some ((i6 (d2N b p d m 0),()),())) ?_
 unfold a7U
 refine Wp.iter (fun x=>∃ n,n ≤ m∧x = ((b,i6 p,i6 d,i6 n,()),())∧d2N b p d (m - n) n = d2N b p d m 0) (fun x=>m - x.1.2.2.2.1.val.toNat) ?_ ⟨0,by omega,rfl,rfl⟩ ?_
 ·
  rintro x ⟨n,hn,rfl,hf⟩
  have hout:¬ n < m→Wp (Rnd (fun o=>o = some ((i6 (d2N b p d m 0),()),())) (fun x=>∃ n,n ≤ m∧x = ((b,i6 p,i6 d,i6 n,()),())∧d2N b p d (m - n) n = d2N b p d m 0) (fun x=>m - x.1.2.2.2.1.val.toNat) (m - (i6 n).val.toNat)) (Stp.done (some ((i6 n,()),()))):=by
   intro h
   refine Wp.done ?_
   show some ((i6 n,()),()) = _
   rw [← hf,show m - n = 0 by omega]
   rfl
  refine Wp.brn (fun h0=>?_) (fun h0=>?_)
  ·
   have h0:I.ltb (i6 n) (i6 131) = true:=h0
   rw [a2M (by omega) (by omega)] at h0
   have h0:=of_decide_eq_true h0
   refine Wp.brn (fun h=>?_) (fun h=>?_)
   ·
    have h:I.ltb (I.add (i6 p) (i6 n)) (i6 b.length) = true:=h
    rw [a3H (by omega),a2M (by omega) (by omega)] at h
    have h:=of_decide_eq_true h
    simp only [a3H (show p + n < 9223372036854775808 by omega),b9I (show p + n < 9223372036854775808 by omega) (show d ≤ p + n by omega),a3C (show p + n < 9223372036854775808 by omega),a3C (show p + n - d < 9223372036854775808 by omega)]
    refine Wp.brnT (a3D (by show p + n < b.length; omega) (by omega)) (Wp.brnT (a3D (by show p + n - d < b.length; omega) (by omega)) ?_)
    obtain ⟨k,hk⟩:∃ k,m - n = k + 1:=⟨m - n - 1,by omega⟩
    rw [hk] at hf
    have hf':(if I.eqb (at8 b (p + n)) (at8 b (p + n - d)) = true then d2N b p d k (n + 1) else n) = d2N b p d m 0:=hf
    refine Wp.brn (fun h2=>?_) (fun h2=>?_)
    ·
     rw [if_pos (show I.eqb (at8 b (p + n)) (at8 b (p + n - d)) = true from h2)] at hf'
     refine Wp.again ⟨n + 1,by omega,?_,by rw [show m - (n + 1) = k by omega]; exact hf'⟩ ?_
     ·
      show ((b,i6 p,i6 d,I.add (i6 n) (i6 1),()),()) = _
      rw [a3H (by omega)]
     ·
      show m - (I.add (i6 n) (i6 1)).val.toNat < m - (i6 n).val.toNat
      rw [a3H (by omega),a0V (by omega),a0V (by omega)]
      omega
    ·
     rw [if_neg (show ¬ I.eqb (at8 b (p + n)) (at8 b (p + n - d)) = true by rw [show I.eqb (at8 b (p + n)) (at8 b (p + n - d)) = false from h2]; simp)] at hf'
     refine Wp.done ?_
     show some ((i6 n,()),()) = _
     rw [hf']
   ·
    have h:I.ltb (I.add (i6 p) (i6 n)) (i6 b.length) = false:=h
    rw [a3H (by omega),a2M (by omega) (by omega)] at h
    have h:=of_decide_eq_false h
    exact hout (by omega)
  ·
   have h0:I.ltb (i6 n) (i6 131) = false:=h0
   rw [a2M (by omega) (by omega)] at h0
   have h0:=of_decide_eq_false h0
   exact hout (by omega)
 ·
  exact b8G _ (by show m - (i6 0).val.toNat < _; omega)
def bst (b:List B8) (p m:Nat):Nat→Nat→Nat × Nat→Nat × Nat
 | 0,_,r=>r
 | f + 1,d,r=>bst b p m f (d + 1) (if r.1 < d2N b p d m 0 then (d2N b p d m 0,d) else r)
theorem f8F (b:List B8) (p m:Nat):∀ f d r,r.1 ≤ m→1 ≤ d→d + f ≤ 1025→(1 ≤ r.1→1 ≤ r.2∧r.2 ≤ 1024)→r.2 ≤ 1024→(bst b p m f d r).1 ≤ m∧(bst b p m f d r).2 ≤ 1024∧(1 ≤ (bst b p m f d r).1→1 ≤ (bst b p m f d r).2∧(bst b p m f d r).2 ≤ 1024)
 | 0,d,r,h,_,_,h1,h2=>⟨h,h2,h1⟩
 | f + 1,d,r,h,hd,hf,h1,h2=>by
  have h3:=(e1H b p d m 0).2
  refine f8F b p m f (d + 1) _ ?_ (by omega) (by omega) ?_ ?_
  ·
   split <;> omega
  ·
   split
   ·
    intro _; simp only; omega
   ·
    exact h1
  ·
   split <;> omega
def b0M (b:List B8) (p:Nat):Nat × Nat:=bst b p (min 131 (b.length - p)) (min 1024 p) 1 (0,0)
theorem f4R (b:List B8) (p:Nat):(b0M b p).1 ≤ min 131 (b.length - p)∧(b0M b p).2 ≤ 1024∧(1 ≤ (b0M b p).1→1 ≤ (b0M b p).2∧(b0M b p).2 ≤ 1024) :=
 f8F b p _ _ 1 (0,0) (by simp) (by omega) (by omega) (by simp) (by simp)
theorem f6E (b:List B8) (p:Nat) (hb:b.length ≤ 1073741824) (hp:p ≤ b.length):b4G K0 ((b,i6 p,()),()) = some ((i6 (b0M b p).1,i6 (b0M b p).2,()),()):=by
 obtain ⟨m,em⟩:∃ m,m = min 131 (b.length - p):=⟨_,rfl⟩
 obtain ⟨D,eD⟩:∃ D,D = min 1024 p:=⟨_,rfl⟩
 have eS:b0M b p = bst b p m D 1 (0,0):=by rw [em,eD]; rfl
 rw [eS]
 refine Wp.out (T:=fun o=>o = some ((i6 (bst b p m D 1 (0,0)).1,i6 (bst b p m D 1 (0,0)).2,()),())) ?_
 unfold b4G
 refine Wp.iter (fun x=>∃ d r,1 ≤ d∧d ≤ D + 1∧r.1 ≤ m∧r.2 ≤ D∧x = ((b,i6 p,i6 r.1,i6 r.2,i6 d,()),())∧bst b p m (D + 1 - d) d r = bst b p m D 1 (0,0)) (fun x=>D + 1 - x.1.2.2.2.2.1.val.toNat) ?_ ⟨1,(0,0),by omega,by omega,by simp,by simp,rfl,by rw [show D + 1 - 1 = D by omega]⟩ ?_
 ·
  rintro x ⟨d,r,h1,h2,h3,h4,rfl,hf⟩
  refine Wp.jn (fun x1=>d ≤ D∧x1.1.1 = b∧x1.1.2.1 = i6 p∧x1.1.2.2.1 = i6 r.1∧x1.1.2.2.2.1 = i6 r.2∧x1.1.2.2.2.2.1 = i6 d) ?_ ?_
  ·
   rintro ⟨⟨y1,y2,y3,y4,y6,y7,y8,y9,⟨⟩⟩,⟨⟩⟩ ⟨hd,e1,e2,e3,e4,e6⟩
   simp only at e1 e2 e3 e4 e6
   subst e1 e2 e3 e4 e6
   refine Wp.optF (e0B y1 p d hb hp h1 (by omega)) ?_
   rw [← em]
   have hml:=(e1H y1 p d m 0).2
   obtain ⟨k,hk⟩:∃ k,D + 1 - d = k + 1:=⟨D - d,by omega⟩
   rw [hk] at hf
   have hf':bst y1 p m k (d + 1) (if r.1 < d2N y1 p d m 0 then (d2N y1 p d m 0,d) else r) = bst y1 p m D 1 (0,0):=hf
   have hmu:D + 1 - (I.add (i6 d) (i6 1)).val.toNat < D + 1 - (i6 d).val.toNat:=by
    rw [a3H (by omega),a0V (by omega),a0V (by omega)]
    omega
   refine Wp.brn (fun h=>?_) (fun h=>?_)
   ·
    have h:I.ltb (i6 r.1) (i6 (d2N y1 p d m 0)) = true:=h
    rw [a2M (by omega) (by omega)] at h
    have h:=of_decide_eq_true h
    rw [if_pos h] at hf'
    refine Wp.again ⟨d + 1,(d2N y1 p d m 0,d),by omega,by omega,by simp only; omega,by simp only; omega,?_,by rw [show D + 1 - (d + 1) = k by omega]; exact hf'⟩ hmu
    show ((y1,i6 p,i6 (d2N y1 p d m 0),i6 d,I.add (i6 d) (i6 1),()),()) = _
    rw [a3H (by omega)]
   ·
    have h:I.ltb (i6 r.1) (i6 (d2N y1 p d m 0)) = false:=h
    rw [a2M (by omega) (by omega)] at h
    have h:=of_decide_eq_false h
    rw [if_neg h] at hf'
    refine Wp.again ⟨d + 1,r,by omega,by omega,h3,h4,?_,by rw [show D + 1 - (d + 1) = k by omega]; exact hf'⟩ hmu
    show ((y1,i6 p,i6 r.1,i6 r.2,I.add (i6 d) (i6 1),()),()) = _
    rw [a3H (by omega)]
  ·
   intro j hj
   have hend:¬ d ≤ D→Wp (Rnd (fun o=>o = some ((i6 (bst b p m D 1 (0,0)).1,i6 (bst b p m D 1 (0,0)).2,()),())) (fun x=>∃ d r,1 ≤ d∧d ≤ D + 1∧r.1 ≤ m∧r.2 ≤ D∧x = ((b,i6 p,i6 r.1,i6 r.2,i6 d,()),())∧bst b p m (D + 1 - d) d r = bst b p m D 1 (0,0)) (fun x=>D + 1 - x.1.2.2.2.2.1.val.toNat) (D + 1 - (i6 d).val.toNat)) (Stp.done (some ((i6 r.1,i6 r.2,()),()))):=by
    intro h
    refine Wp.done ?_
    show some ((i6 r.1,i6 r.2,()),()) = _
    rw [← hf,show D + 1 - d = 0 by omega]
    rfl
   refine Wp.brn (fun h=>?_) (fun h=>?_)
   ·
    have h:I.leb (i6 d) (i6 1024) = true:=h
    rw [d9T (by omega) (by omega)] at h
    have h:=of_decide_eq_true h
    refine Wp.brn (fun h5=>?_) (fun h5=>?_)
    ·
     have h5:I.leb (i6 d) (i6 p) = true:=h5
     rw [d9T (by omega) (by omega)] at h5
     have h5:=of_decide_eq_true h5
     exact hj _ ⟨by omega,rfl,rfl,rfl,rfl,rfl⟩
    ·
     have h5:I.leb (i6 d) (i6 p) = false:=h5
     rw [d9T (by omega) (by omega)] at h5
     have h5:=of_decide_eq_false h5
     exact hend (by omega)
   ·
    have h:I.leb (i6 d) (i6 1024) = false:=h
    rw [d9T (by omega) (by omega)] at h
    have h:=of_decide_eq_false h
    exact hend (by omega)
 ·
  exact b8G _ (by show D + 1 - (i6 1).val.toNat < _; omega)
end Sym

/- The compression: both programs answer alike. -/
namespace Sym
open Go
def lits:Nat→List B8→List B8→List B8
 | 0,out,_=>out
 | f + 1,out,s=>if s.length = 0 then out else lits f ((out ++ [I.of .u8 ((min s.length 127:Nat):Int)]) ++ s.take (min s.length 127)) (s.drop (min s.length 127))
theorem e0M:∀ f g out (s:List B8),s.length ≤ f→s.length ≤ g→lits f out s = lits g out s
 | 0,0,_,_,_,_=>rfl
 | 0,g + 1,out,s,h,_=>by
  show out = if s.length = 0 then out else _
  rw [if_pos (by omega)]
 | f + 1,0,out,s,_,h=>by
  show (if s.length = 0 then out else _) = out
  rw [if_pos (by omega)]
 | f + 1,g + 1,out,s,h,h'=>by
  show (if s.length = 0 then out else lits f _ _) = if s.length = 0 then out else lits g _ _
  by_cases h0:s.length = 0
  ·
   rw [if_pos h0,if_pos h0]
  ·
   rw [if_neg h0,if_neg h0]
   exact e0M f g _ _ (by rw [List.length_drop]; omega) (by rw [List.length_drop]; omega)
def e0O (out s:List B8):List B8:=lits s.length out s
theorem e5C (out:List B8) {s:List B8} (h:s.length = 0):e0O out s = out:=by
 unfold e0O
 rw [h]
 rfl
theorem c6S (out:List B8) {s:List B8} (h:s.length ≠ 0):e0O out s = e0O ((out ++ [I.of .u8 ((min s.length 127:Nat):Int)]) ++ s.take (min s.length 127)) (s.drop (min s.length 127)):=by
 unfold e0O
 obtain ⟨k,hk⟩:∃ k,s.length = k + 1:=⟨s.length - 1,by omega⟩
 have:lits s.length out s = lits (k + 1) out s:=by rw [hk]
 rw [this]
 show (if s.length = 0 then out else lits k _ _) = _
 rw [if_neg h]
 exact e0M _ _ _ _ (by rw [List.length_drop]; omega) (Nat.le_refl _)
def tok (r:Nat × Nat):List B8:=[I.of .u8 ((r.1 + 124:Nat):Int),I.of .u8 (((r.2 - 1) / 256:Nat):Int),I.of .u8 (((r.2 - 1) % 256:Nat):Int)]
def g1T (b:List B8):Nat→Nat→Nat→List B8→List B8
 | 0,fr,_,out=>e0O out (b.drop fr)
 | f + 1,fr,p,out=>if p < b.length then (if (b0M b p).1 < 4 then g1T b f fr (p + 1) out else g1T b f (p + (b0M b p).1) (p + (b0M b p).1) (e0O out (a3W b fr (p - fr)) ++ tok (b0M b p))) else e0O out (b.drop fr)
def d8P (b:List B8):List B8:=g1T b b.length 0 0 []
theorem f4Q {b:List B8} {f fr p:Nat} {out:List B8} (h:b.length ≤ p):g1T b f fr p out = e0O out (b.drop fr):=by
 cases f with
 | zero=>rfl
 | succ f =>
  show (if p < b.length then _ else e0O out (b.drop fr)) = _
  rw [if_neg (by omega)]
theorem c6W {n:Nat} (h:n < 9223372036854775808):I.conv (k:=.i64) .u8 (i6 n) = I.of .u8 (n:Int):=by
 unfold I.conv
 rw [a0V h]
theorem g3R {n:Nat} (h:n < 9223372036854775808):I.quo (i6 n) (i6 256) = i6 (n / 256):=by
 apply I.ext'
 rw [b7H (by rw [a0V h]; omega) (by decide),a0V h,a0V (by omega),a0V (by omega)]
 omega
theorem g3F {n:Nat} (h:n < 9223372036854775808):I.rem (i6 n) (i6 256) = i6 (n % 256):=by
 apply I.ext'
 rw [b6F (by rw [a0V h]; omega) (by decide),a0V h,a0V (by omega),a0V (by omega)]
 omega
end Sym

/- The compression of the reference. -/
namespace Sym
open Go
theorem d9I (b:List B8) (hb:b.length ≤ 100000000):a9R K0 ((b,()),()) = some ((d8P b,()),())∧True:=by
 refine Wp.out (T:=fun o=>o = some ((d8P b,()),())∧True) ?_
 unfold a9R
 refine Wp.iter (fun x=>∃ fr p out f,fr ≤ p∧p ≤ b.length∧out.length ≤ 2 * fr∧b.length - p ≤ f∧x = ((b,i6 fr,i6 p,()),(out,()))∧g1T b f fr p out = d8P b) (fun x=>b.length - x.1.2.2.1.val.toNat) ?_ ⟨0,0,[],b.length,by omega,by omega,by simp,by omega,rfl,rfl⟩ ?_
 ·
  rintro x ⟨fr,p,out,f,h1,h2,h3,h4,rfl,hf⟩
  refine Wp.brn (fun h=>?_) (fun h=>?_)
  ·
   have h:I.ltb (i6 p) (i6 b.length) = true:=h
   rw [a2M (by omega) (by omega)] at h
   have h:=of_decide_eq_true h
   obtain ⟨k,rfl⟩:∃ k,f = k + 1:=⟨f - 1,by omega⟩
   have hf':(if p < b.length then (if (b0M b p).1 < 4 then g1T b k fr (p + 1) out else g1T b k (p + (b0M b p).1) (p + (b0M b p).1) (e0O out (a3W b fr (p - fr)) ++ tok (b0M b p))) else e0O out (b.drop fr)) = d8P b:=hf
   rw [if_pos h] at hf'
   refine Wp.optF (f6E b p (by omega) h2) ?_
   obtain ⟨q1,q2,q3⟩:=f4R b p
   refine Wp.brn (fun h5=>?_) (fun h5=>?_)
   ·
    have h5:I.ltb (i6 (b0M b p).1) (i6 4) = true:=h5
    rw [a2M (by omega) (by omega)] at h5
    have h5:=of_decide_eq_true h5
    rw [if_pos h5] at hf'
    refine Wp.again ⟨fr,p + 1,out,k,by omega,by omega,h3,by omega,?_,hf'⟩ ?_
    ·
     show ((b,i6 fr,I.add (i6 p) (i6 1),()),(out,())) = _
     rw [a3H (by omega)]
    ·
     show b.length - (I.add (i6 p) (i6 1)).val.toNat < b.length - (i6 p).val.toNat
     rw [a3H (by omega),a0V (by omega),a0V (by omega)]
     omega
   ·
    have h5:I.ltb (i6 (b0M b p).1) (i6 4) = false:=h5
    rw [a2M (by omega) (by omega)] at h5
    have h5:=of_decide_eq_false h5
    rw [if_neg h5] at hf'
    have ep:I.nat (i6 p) = p:=a3C (by omega)
    have ef:I.nat (i6 fr) = fr:=a3C (by omega)
    simp only [ep,ef]
    refine Wp.brnT (i6_inB' (by omega) (by omega)) (Wp.brnT (i6_inB' h2 (by omega)) ?_)
    generalize hs0:a3W b fr (p - fr) = s0 at hf' ⊢
    have hs0l:s0.length = p - fr:=by rw [← hs0]; simp [a3W]; omega
    refine Wp.iter (fun y=>∃ s o,y = ((s,b,i6 p,i6 (b0M b p).1,i6 (b0M b p).2,()),(o,()))∧e0O o s = e0O out s0∧o.length + 2 * s.length ≤ 2 * p) (fun y=>y.1.1.length) ?_ ⟨s0,out,rfl,rfl,by omega⟩ (b8G _ (by show s0.length < _; omega))
    rintro y ⟨s,o,rfl,hl,hlen⟩
    refine Wp.brn (fun h6=>?_) (fun h6=>?_)
    ·
     have h6:I.ltb (i6 0) (i6 s.length) = true:=h6
     rw [a2M (by omega) (by omega)] at h6
     have h6:=of_decide_eq_true h6
     refine Wp.brn (fun h7=>?_) (fun h7=>?_)
     ·
      have h7:I.ltb (i6 127) (i6 s.length) = true:=h7
      rw [a2M (by omega) (by omega)] at h7
      have h7:=of_decide_eq_true h7
      simp only [b8U,b3O]
      refine Wp.brnT (iff_fits.2 (by simp [a2D,a0G]; omega)) (Wp.brnT (i6_inB' (n:=127) (by show 127 ≤ s.length; omega) (by omega)) (Wp.brnT (iff_fits.2 (by simp [a2D,a0G]; omega)) (Wp.brnT (i6_inB' (n:=127) (by show 127 ≤ s.length; omega) (by omega)) ?_)))
      refine Wp.again ⟨s.drop 127,(o ++ [I.of .u8 ((127:Nat):Int)]) ++ s.take 127,rfl,?_,?_⟩ ?_
      ·
       rw [← hl,c6S o (by omega),show min s.length 127 = 127 by omega]
      ·
       simp only [List.length_append,List.length_cons,List.length_nil,List.length_take,List.length_drop]
       omega
      ·
       show (s.drop 127).length < s.length
       rw [List.length_drop]; omega
     ·
      have h7:I.ltb (i6 127) (i6 s.length) = false:=h7
      rw [a2M (by omega) (by omega)] at h7
      have h7:=of_decide_eq_false h7
      have em':I.ofNat .i64 (a0G s) = i6 s.length:=rfl
      simp only [em',a3C (show s.length < 9223372036854775808 by omega),c6W (show s.length < 9223372036854775808 by omega),b8U,b3O]
      refine Wp.brnT (iff_fits.2 (by simp [a2D,a0G]; omega)) (Wp.brnT (i6_inB' (n:=s.length) (by show s.length ≤ s.length; omega) (by omega)) (Wp.brnT (iff_fits.2 (by simp [a2D,a0G]; omega)) (Wp.brnT (i6_inB' (n:=s.length) (by show s.length ≤ s.length; omega) (by omega)) ?_)))
      refine Wp.again ⟨s.drop s.length,(o ++ [I.of .u8 ((s.length:Nat):Int)]) ++ s.take s.length,rfl,?_,?_⟩ ?_
      ·
       rw [← hl,c6S o (by omega),show min s.length 127 = s.length by omega]
      ·
       simp only [List.length_append,List.length_cons,List.length_nil,List.length_take,List.length_drop]
       omega
      ·
       show (s.drop s.length).length < s.length
       rw [List.length_drop]; omega
    ·
     have h6:I.ltb (i6 0) (i6 s.length) = false:=h6
     rw [a2M (by omega) (by omega)] at h6
     have h6:=of_decide_eq_false h6
     rw [e5C o (by omega)] at hl
     have et:a2D o ((I.conv (k:=.i64) .u8 (I.add (i6 (b0M b p).1) (I.of .i64 124))) :: ((I.conv (k:=.i64) .u8 (I.quo (I.sub (i6 (b0M b p).2) (I.of .i64 1)) (I.of .i64 256))) :: ((I.conv (k:=.i64) .u8 (I.rem (I.sub (i6 (b0M b p).2) (I.of .i64 1)) (I.of .i64 256))) :: []))) = o ++ tok (b0M b p):=by
      have e1:I.add (i6 (b0M b p).1) (I.of .i64 124) = i6 ((b0M b p).1 + 124):=a3H (m:=124) (by omega)
      have e2:I.sub (i6 (b0M b p).2) (I.of .i64 1) = i6 ((b0M b p).2 - 1):=b9I (m:=1) (by omega) (by omega)
      have e3:I.quo (i6 ((b0M b p).2 - 1)) (I.of .i64 256) = i6 (((b0M b p).2 - 1) / 256):=g3R (by omega)
      have e4:I.rem (i6 ((b0M b p).2 - 1)) (I.of .i64 256) = i6 (((b0M b p).2 - 1) % 256):=g3F (by omega)
      rw [e1,e2,e3,e4,c6W (by omega),c6W (by omega),c6W (by omega)]
      rfl
     refine Wp.done ?_
     rw [et]
     have hlt:(tok (b0M b p)).length = 3:=rfl
     refine Wp.brnT (iff_fits.2 (by simp only [a0G,List.length_append,hlt]; omega)) ?_
     have ea:I.add (i6 p) (i6 (b0M b p).1) = i6 (p + (b0M b p).1):=a3H (by omega)
     rw [ea]
     refine Wp.again ⟨p + (b0M b p).1,p + (b0M b p).1,o ++ tok (b0M b p),k,by omega,by omega,?_,by omega,rfl,?_⟩ ?_
     ·
      simp only [List.length_append,hlt]; omega
     ·
      rw [hl]; exact hf'
     ·
      show b.length - (i6 (p + (b0M b p).1)).val.toNat < b.length - (i6 p).val.toNat
      rw [a0V (by omega),a0V (by omega)]
      omega
  ·
   have h:I.ltb (i6 p) (i6 b.length) = false:=h
   rw [a2M (by omega) (by omega)] at h
   have h:=of_decide_eq_false h
   rw [f4Q (by omega)] at hf
   refine Wp.done ?_
   have ef:I.nat (i6 fr) = fr:=a3C (by omega)
   simp only [ef,b3O]
   refine Wp.brnT (i6_inB' (by show fr ≤ b.length; omega) (by omega)) ?_
   have hs0l:(b.drop fr).length = b.length - fr:=List.length_drop
   generalize b.drop fr = s0 at hf hs0l ⊢
   refine Wp.iter (fun y=>∃ s o,y = ((s,()),(o,()))∧e0O o s = e0O out s0∧o.length + 2 * s.length ≤ 2 * b.length) (fun y=>y.1.1.length) ?_ ⟨s0,out,rfl,rfl,by omega⟩ (b8G _ (by show s0.length < _; omega))
   rintro y ⟨s,o,rfl,hl,hlen⟩
   refine Wp.brn (fun h6=>?_) (fun h6=>?_)
   ·
    have h6:I.ltb (i6 0) (i6 s.length) = true:=h6
    rw [a2M (by omega) (by omega)] at h6
    have h6:=of_decide_eq_true h6
    refine Wp.brn (fun h7=>?_) (fun h7=>?_)
    ·
     have h7:I.ltb (i6 127) (i6 s.length) = true:=h7
     rw [a2M (by omega) (by omega)] at h7
     have h7:=of_decide_eq_true h7
     simp only [b8U,b3O]
     refine Wp.brnT (iff_fits.2 (by simp [a2D,a0G]; omega)) (Wp.brnT (i6_inB' (n:=127) (by show 127 ≤ s.length; omega) (by omega)) (Wp.brnT (iff_fits.2 (by simp [a2D,a0G]; omega)) (Wp.brnT (i6_inB' (n:=127) (by show 127 ≤ s.length; omega) (by omega)) ?_)))
     refine Wp.again ⟨s.drop 127,(o ++ [I.of .u8 ((127:Nat):Int)]) ++ s.take 127,rfl,?_,?_⟩ ?_
     ·
      rw [← hl,c6S o (by omega),show min s.length 127 = 127 by omega]
     ·
      simp only [List.length_append,List.length_cons,List.length_nil,List.length_take,List.length_drop]
      omega
     ·
      show (s.drop 127).length < s.length
      rw [List.length_drop]; omega
    ·
     have h7:I.ltb (i6 127) (i6 s.length) = false:=h7
     rw [a2M (by omega) (by omega)] at h7
     have h7:=of_decide_eq_false h7
     have em':I.ofNat .i64 (a0G s) = i6 s.length:=rfl
     simp only [em',a3C (show s.length < 9223372036854775808 by omega),c6W (show s.length < 9223372036854775808 by omega),b8U,b3O]
     refine Wp.brnT (iff_fits.2 (by simp [a2D,a0G]; omega)) (Wp.brnT (i6_inB' (n:=s.length) (by show s.length ≤ s.length; omega) (by omega)) (Wp.brnT (iff_fits.2 (by simp [a2D,a0G]; omega)) (Wp.brnT (i6_inB' (n:=s.length) (by show s.length ≤ s.length; omega) (by omega)) ?_)))
     refine Wp.again ⟨s.drop s.length,(o ++ [I.of .u8 ((s.length:Nat):Int)]) ++ s.take s.length,rfl,?_,?_⟩ ?_
     ·
      rw [← hl,c6S o (by omega),show min s.length 127 = s.length by omega]
     ·
      simp only [List.length_append,List.length_cons,List.length_nil,List.length_take,List.length_drop]
      omega
     ·
      show (s.drop s.length).length < s.length
      rw [List.length_drop]; omega
   ·
    have h6:I.ltb (i6 0) (i6 s.length) = false:=h6
    rw [a2M (by omega) (by omega)] at h6
    have h6:=of_decide_eq_false h6
    rw [e5C o (by omega)] at hl
    refine Wp.done ?_
    rw [← hf,← hl]
    exact ⟨rfl,trivial⟩
 ·
  exact b8G _ (by show b.length - (i6 0).val.toNat < _; omega)
end Sym

/- The fees: units of data, gas, the shares. -/
namespace Sym
open Go
theorem Wp.jnZ {X R:Type} {T:R→Prop} {J:X→R} {f:(X→R)→R} (h:Wp T (f J)):Wp T (Sym.jn J f):=h
def c3K (b:List B8) (lo hi:I .u64):I .u64 × I .i64 :=
 if I.ltb hi lo = true then (I.of .u64 0,I.of .i64 2) else if 4096 < b.length then (I.of .u64 0,I.of .i64 6)
 else (I.mn (I.mx (I.mul (I.of .u64 16) (I.conv (k:=.i64) .u64 (i6 (d8P b).length))) lo) hi,I.of .i64 0)
theorem mul_comm' {k:IntKind} (a b:I k):I.mul a b = I.mul b a:=by unfold I.mul; rw [Int.mul_comm]
theorem e9G (b:List B8) (lo hi:I .u64) (hb:b.length ≤ 100000000):b1O K0 ((b,lo,hi,()),()) = some (((c3K b lo hi).1,(c3K b lo hi).2,()),()):=by
 refine Wp.out (T:=fun o=>o = some (((c3K b lo hi).1,(c3K b lo hi).2,()),())) ?_
 unfold b1O c3K
 refine Wp.brn (fun h=>?_) (fun h=>?_)
 ·
  rw [if_pos h]; rfl
 ·
  rw [if_neg (by rw [show I.ltb hi lo = false from h]; simp)]
  refine Wp.brn (fun h2=>?_) (fun h2=>?_)
  ·
   have h2:I.ltb (i6 4096) (i6 b.length) = true:=h2
   rw [a2M (by omega) (by omega)] at h2
   rw [if_pos (of_decide_eq_true h2)]; rfl
  ·
   have h2:I.ltb (i6 4096) (i6 b.length) = false:=h2
   rw [a2M (by omega) (by omega)] at h2
   rw [if_neg (of_decide_eq_false h2)]
   refine Wp.optF (d9I b hb).1 (Wp.jnZ ?_)
   have em:I.mul (I.conv (k:=.i64) .u64 (I.ofNat .i64 (a0G (d8P b)))) (I.of .u64 16) = I.mul (I.of .u64 16) (I.conv (k:=.i64) .u64 (i6 (d8P b).length)):=mul_comm' _ _
   simp only [em]
   generalize I.mul (I.of .u64 16) (I.conv (k:=.i64) .u64 (i6 (d8P b).length)) = n
   unfold I.mn I.mx
   refine Wp.brn (fun h3=>?_) (fun h3=>?_)
   ·
    have h3:=iff_ltb.1 h3
    rw [if_pos h3]
    refine Wp.brn (fun h4=>?_) (fun h4=>?_)
    ·
     have h4:=iff_ltb.1 h4; rw [if_pos h4]; rfl
    ·
     have h4:=niff_ltb.1 h4; rw [if_neg (Int.not_lt.2 h4)]; rfl
   ·
    have h3:=niff_ltb.1 h3
    rw [if_neg (Int.not_lt.2 h3)]
    refine Wp.brn (fun h4=>?_) (fun h4=>?_)
    ·
     have h4:=iff_ltb.1 h4; rw [if_pos h4]; rfl
    ·
     have h4:=niff_ltb.1 h4; rw [if_neg (Int.not_lt.2 h4)]; rfl
abbrev CH:Type:=I .u64 × I .u64 × I .u64 × I .u64 × Bool × U × U × U × U × U × Unit
def zU:U:=(I.of .u64 0,I.of .u64 0,I.of .u64 0,I.of .u64 0,())
def zCH:CH:=(I.of .u64 0,I.of .u64 0,I.of .u64 0,I.of .u64 0,false,zU,zU,zU,zU,zU,())
def g9C (data:List B8) (lim:I .u64) (base unit:U) (lo hi:I .u64):I .u64 × I .u64 × I .i64 :=
 if I.neb (c3K data lo hi).2 (I.of .i64 0) = true then (I.of .u64 0,I.of .u64 0,(c3K data lo hi).2)
 else if U.top ≤ (c3K data lo hi).1.nat * unit.val then (I.of .u64 0,I.of .u64 0,I.of .i64 4)
 else if lim.nat < (c3K data lo hi).1.nat * unit.val / base.val then (I.of .u64 0,I.of .u64 0,I.of .i64 13)
 else ((c3K data lo hi).1,I.of .u64 (((c3K data lo hi).1.nat * unit.val / base.val:Nat):Int),I.of .i64 0)
def g1U (lim ex po:I .u64):Nat:=min ex.nat (lim.nat - po.nat)
theorem g8Q {n:Nat} (h:n < 18446744073709551616):(U.of n).1 = I.of .u64 (n:Int):=by
 unfold U.of
 rw [Nat.mod_eq_of_lt h]
theorem e2K {a b:I .u64} (h:a.nat = b.nat):a = b:=by
 apply I.ext'
 rw [← a2F,← a2F,h]
theorem e7R (a b:I .u64) (h:b.nat ≤ a.nat):(I.sub a b).nat = a.nat - b.nat:=by
 have h1:=a2F a
 have h2:=a2F b
 have h3:=a2F (I.sub a b)
 rw [e8Q (by omega)] at h3
 omega
theorem g4U (a b:I .u64):(I.mn a b).nat = min a.nat b.nat:=by
 have h1:=a2F a
 have h2:=a2F b
 unfold I.mn
 split <;> omega
def f8L (base icap:U) (e:Nat):Nat:=base.val * e - min icap.val base.val * e
def e8K (base icap:U) (bips:I .u64) (e:Nat):Nat:=f8L base icap e * bips.nat / 10000
def f4C (base icap tip:U) (bips:I .u64) (e used:Nat):Nat:=f8L base icap e - e8K base icap bips e + tip.val * used
def g5V (c:CH) (base icap:U) (bips:I .u64):CH × I .i64 :=
 if U.top ≤ base.val * c.2.1.nat ∨ U.top ≤ base.val * c.2.2.1.nat ∨ U.top ≤ f4C base icap c.2.2.2.2.2.1 bips c.2.2.1.nat c.2.2.2.1.nat then (zCH,I.of .i64 4)
 else ((c.1,c.2.1,c.2.2.1,c.2.2.2.1,c.2.2.2.2.1,c.2.2.2.2.2.1,U.of (base.val * c.2.1.nat),U.of (min icap.val base.val * c.2.2.1.nat),U.of (f4C base icap c.2.2.2.2.2.1 bips c.2.2.1.nat c.2.2.2.1.nat),U.of (e8K base icap bips c.2.2.1.nat),()),I.of .i64 0)
end Sym

/- Audit: what a transaction took from its sender. -/
namespace Sym
open Go
theorem b3R {l:List Dg} {n k:Nat} (h:IsB l n) (hn:n < 65536 ^ k) (hk:k ≤ 1000000):l.length ≤ 1000000:=Nat.le_trans (h.len.2 hn) hk
theorem e8R:b2B K0 ((),()) = some ((true,()),()):=by
 rw [a6G]; kernel_rfl
end Sym

/- The price of a unit: unchanged, direction, damped. -/
namespace Sym
open Go
theorem f5N {n o:Int} {u E J:Nat} (h1:(n - o).natAbs < U.top) (h2:(-n / (E:Int) - (n - o) / (u:Int)).natAbs < U.top) (h3:((-n / (E:Int) - (n - o) / (u:Int)) * (u:Int)).natAbs < U.top):d0G n o u E J = (S.of ((-n / (E:Int) - (n - o) / (u:Int)) * (u:Int) / ((E / J + u:Nat):Int)),I.of .i64 0):=by
 unfold d0G
 rw [if_pos h1,if_pos h2,if_pos h3]
end Sym

/- The price of a unit: the reference computes the same. -/
namespace Sym
open Go
theorem bd3 {n:Nat} (h:n < 3 * U.top):Bd n:=Nat.lt_trans h (by decide)
theorem bd4 {n:Nat} (h:n < 3 * U.top * 18446744073709551616):Bd n:=Nat.lt_trans h (by decide)
theorem e2J {l:List Dg} {x:I .u64} (h:IsB l x.nat):l.length ≤ 4:=h.len.2 (Nat.lt_of_lt_of_le (a3V x) (by decide))
theorem g5C {l:List Dg} {n:Nat} (h:IsB l n):IsSB (false,l,()) (n:Int):=⟨(decide_eq_false (by omega)).symm,by rw [Int.natAbs_natCast]; exact h⟩
theorem f2Q (a b:S) (u:I .u64) (p:Prm):b1Z K0 ((a,b,u,p,()),()) = some (((c2B a b u p).1,(c2B a b u p).2,()),()):=by
 refine Wp.out (T:=fun o=>o = some (((c2B a b u p).1,(c2B a b u p).2,()),())) ?_
 unfold b1Z
 refine Wp.optF (b6B p) ?_
 refine Wp.brn (fun h=>?_) (fun h=>?_)
 ·
  have hp:a7R p = false:=b3F h
  unfold c2B
  rw [hp]
  rfl
 have hp:a7R p = true:=b3D h
 refine Wp.jn (fun s=>s.1.1 = u∧s.2.1 = a∧s.2.2.1 = b∧s.2.2.2.1 = p∧b0C a = true∧b0C b = true∧u.nat ≠ 0) ?_ ?_
 ·
  rintro ⟨⟨u',⟨⟩⟩,a',b',p',z',⟨⟩⟩ ⟨e0,e1,e2,e3,ha,hb,hu⟩
  simp only at e0 e1 e2 e3
  subst e0 e1 e2 e3
  obtain ⟨hE1,hE2,hJ⟩:1 ≤ (Prm.eq p').nat∧(Prm.eq p').nat ≤ 1099511627776∧1 ≤ (Prm.inertia p').nat:=e5X hp
  have htop:U.top = 115792089237316195423570985008687907853269984665640564039457584007913129639936:=rfl
  rw [f3O hp ha hb hu]
  have hx:=S.lt a'
  have hy:=S.lt b'
  have hun:=a3V u'
  obtain ⟨s2,q2,S2⟩:=c8H a'
  refine Wp.optF q2 ?_
  obtain ⟨s3,q3,S3⟩:=c7N S2 (Bd.of_top hx)
  refine Wp.optF q3 ?_
  obtain ⟨l4,q4,B4⟩:=a1P (Prm.eq p')
  refine Wp.optF q4 ?_
  have L4:=e2J B4
  obtain ⟨s5,q5,S5⟩:=e2L S3 B4 (by omega) (Bd.of_top (by omega)) (by omega)
  refine Wp.optF q5 (Wp.optF q2 ?_)
  obtain ⟨s7,q7,S7⟩:=c8H b'
  refine Wp.optF q7 ?_
  obtain ⟨s8,q8,S8⟩:=c7N S7 (Bd.of_top hy)
  refine Wp.optF q8 ?_
  obtain ⟨s9,q9,S9⟩:=d7H S2 S8 (Bd.of_top hx) (Bd.of_top (by omega)) (Bd.of_two (by omega))
  rw [← Int.sub_eq_add_neg] at S9
  refine Wp.optF q9 ?_
  obtain ⟨l10,q10,B10⟩:=a1P u'
  refine Wp.optF q10 ?_
  have L10:=e2J B10
  obtain ⟨s11,q11,S11⟩:=e2L S9 B10 hu (Bd.of_two (by omega)) (by omega)
  refine Wp.optF q11 ?_
  have f1:=d1O (-S.int a') (Prm.eq p').nat (by omega)
  have f2:=d1O (S.int a' - S.int b') u'.nat hu
  generalize hw:-S.int a' / ((Prm.eq p').nat:Int) = w at S5 f1
  generalize hv:(S.int a' - S.int b') / (u'.nat:Int) = v at S11 f2
  obtain ⟨s12,q12,S12⟩:=c7N S11 (Bd.of_two (by omega))
  refine Wp.optF q12 ?_
  obtain ⟨s13,q13,S13⟩:=d7H S5 S12 (Bd.of_two (by omega)) (Bd.of_two (by omega)) (bd3 (by omega))
  rw [← Int.sub_eq_add_neg] at S13
  refine Wp.optF q13 (Wp.optF q10 ?_)
  have h13:(w - v).natAbs < 3 * U.top:=by omega
  have hmul:(w - v).natAbs * u'.nat < 3 * U.top * 18446744073709551616:=Nat.lt_of_le_of_lt (Nat.mul_le_mul_left _ (Nat.le_of_lt hun)) (Nat.mul_lt_mul_of_pos_right h13 (by decide))
  obtain ⟨s15,q15,S15⟩:=g0I S13 (g5C B10) (bd3 h13) (Bd.of_top (by omega)) (by rw [Int.natAbs_natCast]; exact bd4 hmul)
  refine Wp.optF q15 ?_
  have h15:((w - v) * (u'.nat:Int)).natAbs < 3 * U.top * 18446744073709551616:=by rw [Int.natAbs_mul,Int.natAbs_natCast]; exact hmul
  refine Wp.jn (fun s=>s.1.1 = u'∧s.2.1 = p'∧s.2.2.2.1 = s15∧(S.int a' - S.int b').natAbs < U.top∧(w - v).natAbs < U.top∧((w - v) * (u'.nat:Int)).natAbs < U.top) ?_ ?_
  ·
   rintro ⟨⟨u2,⟨⟩⟩,p2,z2,s2',⟨⟩⟩ ⟨e0,e1,e2,t1,t2,t3⟩
   simp only at e0 e1 e2
   subst e0 e1 e2
   obtain ⟨l17,q17,B17⟩:=a1P (Prm.eq p2)
   obtain ⟨l18,q18,B18⟩:=a1P (Prm.inertia p2)
   have L17:=e2J B17
   have L18:=e2J B18
   refine Wp.optF q17 (Wp.optF q18 ?_)
   obtain ⟨l19,m19,q19,B19,_⟩:=c4I B17 B18 (by omega) (by omega) (by omega)
   refine Wp.optF q19 (Wp.optF q10 ?_)
   have L19:l19.length ≤ 4:=B19.len.2 (Nat.lt_of_le_of_lt (Nat.div_le_self _ _) (Nat.lt_of_lt_of_le (a3V (Prm.eq p2)) (by decide)))
   obtain ⟨l21,q21,B21⟩:=a9P B19 B10 (Nat.le_trans L19 (by decide)) (Nat.le_trans L10 (by decide))
   refine Wp.optF q21 ?_
   have hby:u2.nat ≤ (Prm.eq p2).nat / (Prm.inertia p2).nat + u2.nat:=Nat.le_add_left _ _
   have hby2:(Prm.eq p2).nat / (Prm.inertia p2).nat ≤ (Prm.eq p2).nat:=Nat.div_le_self _ _
   have L21:l21.length ≤ 5:=B21.len.2 (Nat.lt_of_le_of_lt (show _ ≤ 1099511627776 + 18446744073709551616 by omega) (by decide))
   have hdz:d0G (S.int a') (S.int b') u2.nat (Prm.eq p2).nat (Prm.inertia p2).nat = (S.of ((w - v) * (u2.nat:Int) / (((Prm.eq p2).nat / (Prm.inertia p2).nat + u2.nat:Nat):Int)),I.of .i64 0):=by
    rw [f5N t1 (by rw [hw,hv]; exact t2) (by rw [hw,hv]; exact t3),hw,hv]
   rw [hdz]
   generalize (Prm.eq p2).nat / (Prm.inertia p2).nat + u2.nat = B at hby B21
   obtain ⟨s22,q22,S22⟩:=e2L S15 B21 (by omega) (bd4 h15) (Nat.le_trans L21 (by decide))
   refine Wp.optF q22 ?_
   have f3:=d1O ((w - v) * (u2.nat:Int)) B (by omega)
   refine Wp.optF (d0I S22 (Bd.of_top (by omega))) ?_
   rw [e1N (by omega)]
   rfl
  ·
   intro j hj
   have len9:=Bd.len S9.abs (Bd.of_two (by omega))
   have len13:=Bd.len S13.abs (bd3 h13)
   have len15:=Bd.len S15.abs (bd4 h15)
   refine Wp.optF (c2H S9.abs (Nat.lt_of_le_of_lt len9 (by decide))) ?_
   unfold d0G
   rw [hw,hv]
   by_cases t1:(S.int a' - S.int b').natAbs < U.top
   ·
    rw [if_pos t1]
    refine Wp.brnF (by show a3I (decide _) = false; rw [decide_eq_true t1]; rfl) ?_
    refine Wp.optF (c2H S13.abs (Nat.lt_of_le_of_lt len13 (by decide))) ?_
    by_cases t2:(w - v).natAbs < U.top
    ·
     rw [if_pos t2]
     refine Wp.brnF (by show a3I (decide _) = false; rw [decide_eq_true t2]; rfl) ?_
     refine Wp.optF (c2H S15.abs (Nat.lt_of_le_of_lt len15 (by decide))) ?_
     by_cases t3:((w - v) * (u'.nat:Int)).natAbs < U.top
     ·
      refine Wp.brnF (by show a3I (decide _) = false; rw [decide_eq_true t3]; rfl) ?_
      have:=hj ((u',()),(p',z',s15,())) ⟨rfl,rfl,rfl,t1,t2,t3⟩
      unfold d0G at this
      rw [hw,hv,if_pos t1,if_pos t2] at this
      exact this
     ·
      rw [if_neg t3]
      exact Wp.brnT (by show a3I (decide _) = true; rw [decide_eq_false t3]; rfl) rfl
    ·
     rw [if_neg t2]
     exact Wp.brnT (by show a3I (decide _) = true; rw [decide_eq_false t2]; rfl) rfl
   ·
    rw [if_neg t1]
    exact Wp.brnT (by show a3I (decide _) = true; rw [decide_eq_false t1]; rfl) rfl
 ·
  intro j hj
  refine Wp.optF (b8J a) ?_
  refine Wp.brn (fun h=>?_) (fun h=>?_)
  ·
   have ha:b0C a = false:=b3F h
   unfold c2B
   rw [if_pos hp,ha]
   rfl
  ·
   have ha:b0C a = true:=b3D h
   refine Wp.optF (b8J b) ?_
   refine Wp.brn (fun h=>?_) (fun h=>?_)
   ·
    have hb:b0C b = false:=b3F h
    unfold c2B
    rw [if_pos hp,if_pos ha,hb]
    rfl
   ·
    have hb:b0C b = true:=b3D h
    refine Wp.brn (fun h=>?_) (fun h=>?_)
    ·
     have hu:=(c9Z u).1 h
     unfold c2B
     rw [if_pos hp,if_pos ha,if_pos hb,if_pos hu]
     rfl
    ·
     have hu:u.nat ≠ 0:=fun h0=>by
      rw [(c9Z u).2 h0] at h; cases h
     exact hj _ ⟨rfl,rfl,rfl,rfl,ha,hb,hu⟩
theorem f4G (c:U) (a b:S) (u:I .u64) (p:Prm):b2Y K0 ((c,a,b,u,p,()),()) = some (((c2U c a b u p).1,(c2U c a b u p).2,()),()):=by
 refine Wp.out (T:=fun o=>o = some (((c2U c a b u p).1,(c2U c a b u p).2,()),())) ?_
 unfold b2Y
 refine Wp.optF (b6B p) ?_
 refine Wp.brn (fun h=>?_) (fun h=>?_)
 ·
  have hp:a7R p = false:=b3F h
  unfold c2U
  rw [hp]
  rfl
 have hp:a7R p = true:=b3D h
 refine Wp.jn (fun s=>s.1.1 = u∧s.2.1 = c∧s.2.2.1 = a∧s.2.2.2.1 = b∧s.2.2.2.2.1 = p∧b0C a = true∧b0C b = true) ?_ ?_
 ·
  rintro ⟨⟨u',⟨⟩⟩,c',a',b',p',z',⟨⟩⟩ ⟨e0,e1,e2,e3,e4,ha,hb⟩
  simp only at e0 e1 e2 e3 e4
  subst e0 e1 e2 e3 e4
  unfold c2U
  rw [if_pos hp,if_pos ha,if_pos hb]
  refine Wp.brn (fun h=>?_) (fun h=>?_)
  ·
   have hu:=(c9Z u').1 h
   rw [if_pos hu]
   rfl
  ·
   have hu:u'.nat ≠ 0:=fun h0=>by
    rw [(c9Z u').2 h0] at h; cases h
   rw [if_neg hu]
   refine Wp.optF (f2Q _ _ _ _) ?_
   refine Wp.brn (fun h=>?_) (fun h=>?_)
   ·
    rw [if_pos h]
    rfl
   ·
    rw [if_neg (by rw [h]; decide)]
    exact Wp.optF (f1N _ _) rfl
 ·
  intro j hj
  refine Wp.optF (b8J a) ?_
  refine Wp.brn (fun h=>?_) (fun h=>?_)
  ·
   have ha:b0C a = false:=b3F h
   unfold c2U
   rw [if_pos hp,ha]
   rfl
  ·
   have ha:b0C a = true:=b3D h
   refine Wp.optF (b8J b) ?_
   refine Wp.brn (fun h=>?_) (fun h=>?_)
   ·
    have hb:b0C b = false:=b3F h
    unfold c2U
    rw [if_pos hp,if_pos ha,hb]
    rfl
   ·
    have hb:b0C b = true:=b3D h
    exact hj _ ⟨rfl,rfl,rfl,rfl,rfl,ha,hb⟩
end Sym

/- Binary heaps in lists. -/
namespace Sym
open Go
structure SOrd {α:Type} (lt:α→α→Bool):Prop where
 asymm:∀ a b,lt a b = true→lt b a = false
 trans:∀ a b c,lt b a = false→lt c b = false→lt c a = false
section
variable {α:Type} {lt:α→α→Bool} (d:α)
end
end Sym

/- The queue of debts: each function. -/
namespace Sym
open Go
abbrev Item:Type:=c3F
abbrev Post:Type:=a0A
noncomputable abbrev dI:Item:=c7F
noncomputable abbrev dP:Post:=a0D
abbrev Post.addr (p:Post):I .u64:=p.1
abbrev Post.due (p:Post):U:=p.2.1
abbrev Post.since (p:Post):I .u64:=p.2.2.2.2.2.1
def c3O (a b:Item):Bool :=
 brn (I.neb (Post.since a.1) (Post.since b.1)) (I.ltb (Post.since a.1) (Post.since b.1))
  (brn (I.neb (Post.addr a.1) (Post.addr b.1)) (I.ltb (Post.addr a.1) (Post.addr b.1)) (I.ltb a.2.1 b.2.1))
theorem d2H (a b:Item):c3O a b = true ↔ (Post.since a.1).val < (Post.since b.1).val ∨ ((Post.since a.1).val = (Post.since b.1).val∧((Post.addr a.1).val < (Post.addr b.1).val ∨ ((Post.addr a.1).val = (Post.addr b.1).val∧a.2.1.val < b.2.1.val))):=by
 unfold c3O
 cases h:I.neb (Post.since a.1) (Post.since b.1) with
 | true =>
  have h:=iff_neb.1 h
  show I.ltb _ _ = true ↔ _
  rw [iff_ltb]
  omega
 | false =>
  have h:=niff_neb.1 h
  show brn _ _ _ = true ↔ _
  cases h2:I.neb (Post.addr a.1) (Post.addr b.1) with
  | true =>
   have h2:=iff_neb.1 h2
   show I.ltb _ _ = true ↔ _
   rw [iff_ltb]
   omega
  | false =>
   have h2:=niff_neb.1 h2
   show I.ltb _ _ = true ↔ _
   rw [iff_ltb]
   omega
theorem b9O (a b:Item):c3O a b = false ↔ ¬ ((Post.since a.1).val < (Post.since b.1).val ∨ ((Post.since a.1).val = (Post.since b.1).val∧((Post.addr a.1).val < (Post.addr b.1).val ∨ ((Post.addr a.1).val = (Post.addr b.1).val∧a.2.1.val < b.2.1.val)))):=by
 rw [← d2H]
 simp
theorem lessO:SOrd c3O where
 asymm a b h:=by
  have h:=(d2H a b).1 h
  rw [b9O]
  omega
 trans a b c h1 h2:=by
  have h1:=(b9O _ _).1 h1
  have h2:=(b9O _ _).1 h2
  rw [b9O]
  omega
theorem c0H:I.of .i64 0 = i6 0:=rfl
theorem b4M:I.of .i64 1 = i6 1:=rfl
end Sym

/- The queue of debts: Len, Peek, Pop. -/
namespace Sym
open Go
end Sym

/- The queue of debts: New, Order and the reference's order. -/
namespace Sym
open Go
noncomputable def ow (p:Post):Bool:=a3I (Ty.eqb (.arr 4 (.int .u64)) p.2.1 Z_U)
noncomputable def c9Y:Nat→List Post→List Item
 | _,[]=>[]
 | k,p :: l=>(if ow p = true then [(p,(i6 k,()))] else []) ++ c9Y (k + 1) l
theorem e4F:∀ (l m:List Post) (k:Nat),c9Y k (l ++ m) = c9Y k l ++ c9Y (k + l.length) m
 | [],m,k=>by simp [c9Y]
 | p :: l,m,k=>by
  simp only [List.cons_append,c9Y,e4F l m (k + 1),List.append_assoc,List.length_cons]
  rw [show k + 1 + l.length = k + (l.length + 1) by omega]
theorem f7A (p:Post) (k:Nat):c9Y k [p] = if ow p = true then [(p,(i6 k,()))] else []:=by simp [c9Y]
theorem d5T:∀ (l:List Post) (k:Nat),(c9Y k l).length ≤ l.length
 | [],k=>Nat.le_refl _
 | p :: l,k=>by
  have:=d5T l (k + 1)
  simp only [c9Y,List.length_append,List.length_cons]
  split <;> simp <;> omega
theorem c9V:∀ (l:List Post) (k:Nat) (x:Item),x ∈ c9Y k l→∃ i,i < l.length∧x = (rdL dP l i,(i6 (k + i),()))∧ow x.1 = true
 | [],k,x,h=>by cases h
 | p :: l,k,x,h=>by
  simp only [c9Y,List.mem_append] at h
  rcases h with h | h
  ·
   split at h
   ·
    rename_i hp
    have h:=List.mem_singleton.1 h
    subst h
    exact ⟨0,by simp,rfl,hp⟩
   ·
    cases h
  ·
   obtain ⟨i,hi,e,ho⟩:=c9V l (k + 1) x h
   exact ⟨i + 1,by simpa using hi,by rw [e,show k + 1 + i = k + (i + 1) by omega]; rfl,ho⟩
theorem e8O {a:List Post} {i:Nat} (h:i < a.length):c9Y 0 (a.take (i + 1)) = c9Y 0 (a.take i) ++ (if ow (rdL dP a i) = true then [(rdL dP a i,(i6 i,()))] else []):=by
 rw [List.take_succ_eq_append_getElem h,e4F,f7A,List.length_take,Nat.min_eq_left (by omega),Nat.zero_add,a4N dP a i h]
theorem e9U {a:List Post} (ha:a.length ≤ 1073741824) {x y:Item} (hx:x ∈ c9Y 0 a) (hy:y ∈ c9Y 0 a) (h1:c3O y x = false) (h2:c3O x y = false):x = y:=by
 obtain ⟨i,hi,e1,_⟩:=c9V _ _ _ hx
 obtain ⟨j,hj,e2,_⟩:=c9V _ _ _ hy
 have h1:=(b9O _ _).1 h1
 have h2:=(b9O _ _).1 h2
 have a1:x.2.1.val = i:=by rw [e1]; show (i6 (0 + i)).val = _; rw [a0V (by omega)]; omega
 have a2:y.2.1.val = j:=by rw [e2]; show (i6 (0 + j)).val = _; rw [a0V (by omega)]; omega
 have:i = j:=by omega
 subst this
 rw [e1,e2]
noncomputable def d3B (a:List Post):List Item:=(c9Y 0 a).mergeSort fun x y=>!c3O y x
theorem c4Z (a:List Post):(d3B a).Perm (c9Y 0 a):=List.mergeSort_perm _ _
theorem e8Z (a:List Post):(d3B a).Pairwise fun x y=>c3O y x = false:=by
 have:=List.pairwise_mergeSort (le:=fun x y=>!c3O y x) (fun x y z h1 h2=>by
  simp only [Bool.not_eq_true'] at *
  exact lessO.trans _ _ _ h1 h2) (fun x y=>by
  cases h:c3O y x with
  | false=>rfl
  | true=>rw [lessO.asymm _ _ h]; rfl) (c9Y 0 a)
 exact this.imp (by simp)
theorem e6V {a:List Post} (ha:a.length ≤ 1073741824) {r:List Item} (hp:r.Perm (c9Y 0 a)) (ho:r.Pairwise fun x y=>c3O y x = false):r = d3B a :=
 List.Perm.eq_of_pairwise (le:=fun x y=>c3O y x = false) (fun x y hx hy h1 h2=>e9U ha (hp.mem_iff.1 hx) ((c4Z a).mem_iff.1 hy) h1 h2) ho (e8Z a) (hp.trans (c4Z a).symm)
theorem d9W (a:List Post):(d3B a).length ≤ a.length:=by rw [(c4Z a).length_eq]; exact d5T a 0
theorem h1B {p:Post}:Ty.eqb (.arr 4 (.int .u64)) p.2.1 Z_U = false→ow p = true:=fun h=>by unfold ow; rw [h]; rfl
theorem h1O {p:Post}:Ty.eqb (.arr 4 (.int .u64)) p.2.1 Z_U = true→ow p = false:=fun h=>by unfold ow; rw [h]; rfl
end Sym

/- The queue of debts: the reference, comparisons of lists. -/
namespace Sym
open Go
def gtP (y x:Post):Prop:=(Post.since x).val < (Post.since y).val ∨ ((Post.since y).val = (Post.since x).val∧(Post.addr x).val < (Post.addr y).val)
theorem e7Y {r:List Item} {x:Item} {k:Nat} (hk:k ≤ r.length) (ho:r.Pairwise fun a b=>c3O b a = false) (hat:∀ y ∈ r,y.2.1.val < x.2.1.val)
  (h1:∀ q,k ≤ q→q < r.length→gtP (rdL dI r q).1 x.1) (h2:k = 0 ∨ ¬ gtP (rdL dI r (k - 1)).1 x.1) :
  (r.take k ++ x :: r.drop k).Pairwise fun a b=>c3O b a = false:=by
 rw [List.pairwise_append]
 have hd:∀ y ∈ r.drop k,c3O y x = false:=by
  intro y hy
  obtain ⟨q,hq,e⟩:=List.getElem_of_mem hy
  rw [List.getElem_drop] at e
  rw [List.length_drop] at hq
  have:=h1 (k + q) (by omega) (by omega)
  rw [a4N dI r _ (by omega),e] at this
  refine lessO.asymm _ _ ((d2H _ _).2 ?_)
  rcases this with h | ⟨h,h'⟩
  ·
   exact .inl h
  ·
   exact .inr ⟨h.symm,.inl h'⟩
 have ht:∀ y ∈ r.take k,c3O x y = false:=by
  intro y hy
  obtain ⟨q,hq,e⟩:=List.getElem_of_mem hy
  rw [List.length_take] at hq
  rw [List.getElem_take] at e
  have h2:=h2.resolve_left (by omega)
  have hlast:c3O x (rdL dI r (k - 1)) = false:=by
   rw [b9O]
   have hm:=hat _ (c3T dI r (k - 1) (by omega))
   unfold gtP at h2
   omega
  rcases Nat.lt_or_ge q (k - 1) with hc | hc
  ·
   have:=List.pairwise_iff_getElem.1 ho q (k - 1) (by omega) (by omega) hc
   rw [e,← a4N dI r (k - 1) (by omega)] at this
   exact lessO.trans _ _ _ this hlast
  ·
   have:q = k - 1:=by omega
   subst this
   rw [← e,← a4N dI r (k - 1) (by omega)]
   exact hlast
 refine ⟨ho.take,List.pairwise_cons.2 ⟨hd,ho.drop⟩,fun a ha b hb=>?_⟩
 rcases List.mem_cons.1 hb with rfl | hb
 ·
  exact ht a ha
 ·
  exact lessO.trans _ _ _ (ht a ha) (hd b hb)
theorem g4P {n:Nat} (h:n < 9223372036854775808):eqV (k:=.i64) (l:=.i64) (i6 n) (i6 n) = true:=by simp [eqV]
theorem e8E {a:List Post} (ha:a.length ≤ 1073741824):b0I K0 ((a,()),()) = some (((d3B a).map (·.1),()),()):=by
 refine Wp.out (T:=fun o=>o = some (((d3B a).map (·.1),()),())) ?_
 unfold b0I
 simp only [a6F,a9I,c0H,b4M]
 refine Wp.iter (fun s=>∃ i r,s = ((a,(i6 i,())),(r.map (·.1),()))∧i ≤ a.length∧r.Perm (c9Y 0 (a.take i))∧r.Pairwise fun x y=>c3O y x = false) (fun s=>a.length - s.1.2.1.val.toNat) ?_ ⟨0,[],rfl,by omega,by simp [c9Y],List.Pairwise.nil⟩ ?_
 ·
  rintro s ⟨i,r,rfl,hi,hp,ho⟩
  simp only [a2M (show i < 9223372036854775808 by omega) (show a.length < 9223372036854775808 by omega),a3C (show i < 9223372036854775808 by omega),a3H (show i + 1 < 9223372036854775808 by omega),List.length_map]
  have hlen:r.length ≤ i:=by
   rw [hp.length_eq]
   exact Nat.le_trans (d5T _ _) (by rw [List.length_take]; omega)
  refine Wp.brn (fun hc=>?_) (fun hc=>?_)
  ·
   have hc:=of_decide_eq_true hc
   have ht:=e8O hc
   have bi:inB (i6 i) a.length = true:=a3D (by omega) (by omega)
   have hm:a.length - (i6 (i + 1)).val.toNat < a.length - (i6 i).val.toNat:=by rw [a0V (by omega),a0V (by omega)]; omega
   refine Wp.brnT bi ?_
   refine Wp.brn (fun hd=>?_) (fun hd=>?_)
   ·
    rw [if_neg (by rw [show ow (rdL dP a i) = false from h1O hd]; simp),List.append_nil] at ht
    exact Wp.again ⟨i + 1,r,rfl,by omega,by rw [ht]; exact hp,ho⟩ hm
   ·
    rw [if_pos (show ow (rdL dP a i) = true from h1B hd)] at ht
    have hat:∀ y ∈ r,y.2.1.val < (i6 i).val:=by
     intro y hy
     obtain ⟨q,hq,e,_⟩:=c9V _ _ _ (hp.mem_iff.1 hy)
     rw [List.length_take] at hq
     rw [e]
     show (i6 (0 + q)).val < _
     rw [a0V (by omega),a0V (by omega)]
     omega
    have hrm:∀ q,q < r.length→rdL dP (r.map (·.1)) q = (rdL dI r q).1:=fun q hq=>by
     rw [a4N dP _ q (by simpa using hq),a4N dI r q hq,List.getElem_map]
    refine Wp.jn (fun s=>∃ k,s = ((a,(i6 i,(i6 k,()))),(r.map (·.1),()))∧k ≤ r.length∧(∀ q,k ≤ q→q < r.length→gtP (rdL dI r q).1 (rdL dP a i))∧(k = 0 ∨ ¬ gtP (rdL dI r (k - 1)).1 (rdL dP a i))) ?_ ?_
    ·
     rintro s ⟨k,rfl,hk,g1,g2⟩
     simp only [a3C (show k < 9223372036854775808 by omega),a3C (show i < 9223372036854775808 by omega),List.length_map,b8U]
     have bk:inB' (i6 k) r.length = true:=i6_inB' hk (by omega)
     have esub:a3W (r.map (·.1)) k (r.length - k) = (r.drop k).map (·.1):=by
      have:=b3O (r.map (·.1)) k
      rw [List.length_map] at this
      rw [this,List.map_drop]
     refine Wp.brnT bk (Wp.brnT (g4P (by omega)) (Wp.brnT bi (Wp.brnT bk ?_)))
     simp only [esub]
     refine Wp.brnT (a8R (by show ([rdL dP a i] ++ (r.drop k).map (·.1)).length ≤ _; simp; omega)) (Wp.brnT (a8R (by show ((r.map (·.1)).take k ++ ([rdL dP a i] ++ (r.drop k).map (·.1))).length ≤ _; simp; omega)) (Wp.brnF rfl ?_))
     simp only [a3H (show i + 1 < 9223372036854775808 by omega)]
     refine Wp.again ⟨i + 1,r.take k ++ (rdL dP a i,(i6 i,())) :: r.drop k,?_,by omega,?_,e7Y hk ho hat g1 g2⟩ hm
     ·
      simp [a2D,List.map_take]
     ·
      rw [ht]
      refine (List.perm_middle).trans ?_
      rw [List.take_append_drop]
      exact (List.Perm.cons _ hp).trans (List.perm_append_comm (l₁:=[_]))
    ·
     intro j hj
     refine Wp.iter (fun s=>∃ k,s = ((a,(i6 i,(i6 k,()))),(r.map (·.1),()))∧k ≤ r.length∧(∀ q,k ≤ q→q < r.length→gtP (rdL dI r q).1 (rdL dP a i))) (fun s=>s.1.2.2.1.val.toNat) ?_ ⟨r.length,rfl,by omega,fun q h1 h2=>by omega⟩ ?_
     ·
      rintro s ⟨k,rfl,hk,g1⟩
      simp only [a2M (show 0 < 9223372036854775808 by omega) (show k < 9223372036854775808 by omega),a3C (show i < 9223372036854775808 by omega),List.length_map]
      refine Wp.brn (fun hk0=>?_) (fun hk0=>?_)
      ·
       have hk0:=of_decide_eq_true hk0
       simp only [b9I (show k < 9223372036854775808 by omega) (show 1 ≤ k by omega),a3C (show k - 1 < 9223372036854775808 by omega),hrm (k - 1) (by omega)]
       have bk:inB (i6 (k - 1)) r.length = true:=a3D (by omega) (by omega)
       have again:gtP (rdL dI r (k - 1)).1 (rdL dP a i)→(∃ k',(((a,(i6 i,(i6 (k - 1),()))),(r.map (·.1),())):(List Post × (I .i64 × (I .i64 × Unit))) × (List Post × Unit)) = ((a,(i6 i,(i6 k',()))),(r.map (·.1),()))∧k' ≤ r.length∧(∀ q,k' ≤ q→q < r.length→gtP (rdL dI r q).1 (rdL dP a i)))∧(i6 (k - 1)).val.toNat < (i6 k).val.toNat:=by
        intro hg
        refine ⟨⟨k - 1,rfl,by omega,fun q h1 h2=>?_⟩,by rw [a0V (by omega),a0V (by omega)]; omega⟩
        rcases (by omega:q = k - 1 ∨ k ≤ q) with rfl | h
        ·
         exact hg
        ·
         exact g1 q h h2
       have stop:¬ gtP (rdL dI r (k - 1)).1 (rdL dP a i)→Wp _ (j ((a,(i6 i,(i6 k,()))),(r.map (·.1),()))):=fun hg=>hj _ ⟨k,rfl,hk,g1,.inr hg⟩
       refine Wp.brnT bk (Wp.brnT bi ?_)
       refine Wp.brn (fun h1=>?_) (fun h1=>?_)
       ·
        have h1:=iff_ltb.1 h1
        exact Wp.again (again (.inl h1)).1 (again (.inl h1)).2
       ·
        have h1:=niff_ltb.1 h1
        refine Wp.brnT bk (Wp.brnT bi ?_)
        refine Wp.brn (fun h2=>?_) (fun h2=>?_)
        ·
         have h2:=iff_eqb.1 h2
         refine Wp.brnT bk (Wp.brnT bi ?_)
         refine Wp.brn (fun h3=>?_) (fun h3=>?_)
         ·
          have h3:=iff_ltb.1 h3
          exact Wp.again (again (.inr ⟨h2,h3⟩)).1 (again (.inr ⟨h2,h3⟩)).2
         ·
          have h3:=niff_ltb.1 h3
          exact Wp.done (stop fun hg=>by
           rcases hg with hg | ⟨_,hg⟩
           ·
            exact absurd hg (by show ¬ _ < _; exact Int.not_lt.2 h1)
           ·
            exact absurd hg (Int.not_lt.2 h3))
        ·
         have h2:=niff_eqb.1 h2
         exact Wp.done (stop fun hg=>by
          rcases hg with hg | ⟨hg,_⟩
          ·
           exact absurd hg (Int.not_lt.2 h1)
          ·
           exact h2 hg)
      ·
       have hk0:=of_decide_eq_false hk0
       exact Wp.done (hj _ ⟨k,rfl,hk,g1,.inl (by omega)⟩)
     ·
      rw [a6G]
      show (i6 r.length).val.toNat < _
      rw [a0V (by omega)]
      omega
  ·
   have hc:=of_decide_eq_false hc
   refine Wp.done ?_
   rw [List.take_of_length_le (by omega)] at hp
   rw [e6V ha hp ho]
   rfl
 ·
  rw [a6G]
  show a.length - _ < _
  omega
end Sym

/- The laws of the queue of debts. -/
namespace Sym
open Go
end Sym

/- The laws of the queue of debts: complete, empty, any order of the list. -/
namespace Sym
open Go
theorem e5G:∀ (l:List Post) (k:Nat),(c9Y k l).map (·.1) = l.filter ow
 | [],k=>rfl
 | p :: l,k=>by
  simp only [c9Y,List.map_append,e5G l (k + 1),List.filter_cons]
  split <;> simp
theorem c3W (a:List Post):((d3B a).map (·.1)).Perm (a.filter ow):=by
 rw [← e5G a 0]
 exact (c4Z a).map _
end Sym

/- Tables of posters: which are valid, where one stands. -/
namespace Sym
open Go
abbrev Post.costs (p:Post):U:=p.2.2.1
abbrev Post.rewards (p:Post):U:=p.2.2.2.1
abbrev Post.paid (p:Post):U:=p.2.2.2.2.1
def b6D (p:Post):Prop:=(Post.addr p).val ≠ 0∧(Post.due p).val + (Post.paid p).val = (Post.costs p).val + (Post.rewards p).val∧((Post.since p).val = 0 ↔ (Post.due p).val = 0)
def TableOk (l:List Post):Prop:=l.length ≤ 64∧∀ i,i < l.length→b6D (rdL dP l i)∧(0 < i→(Post.addr (rdL dP l (i - 1))).val < (Post.addr (rdL dP l i)).val)
open Classical in
noncomputable def c5F (l:List Post):Bool:=decide (TableOk l)
open Classical in
theorem tabB_t {l:List Post}:c5F l = true ↔ TableOk l:=by unfold c5F; exact decide_eq_true_iff
open Classical in
theorem tabB_f {l:List Post}:c5F l = false ↔ ¬ TableOk l:=by unfold c5F; exact decide_eq_false_iff_not
theorem f7L (a:U):Ty.eqb (.arr 4 (.int .u64)) a Z_U = decide (a.val = 0):=by
 rw [e2Y]
 rw [show U.val Z_U = 0 from rfl]
theorem c4X (a:U):a2I K0 ((a,()),()) = some ((decide (a.val = 0),()),()):=by
 show some _ = _
 rw [show Ty.eqb (.arr 4 (.int .u64)) ((a,()),()).1.1 ((I.of .u64 0),((I.of .u64 0),((I.of .u64 0),((I.of .u64 0),())))) = decide (a.val = 0) from f7L a]
 rfl
theorem f3L (a b:Bool):Ty.eqb .bool a b = true ↔ a = b:=e1I .bool rfl a b
theorem d2T (p:Post):∃ y,a7K K0 ((p,()),()) = some y∧∃ b:Bool,y = ((b,()),())∧(b = true ↔ b6D p):=by
 obtain ⟨ad,due,costs,rewards,paid,since,⟨⟩⟩:=p
 refine Wp.out (T:=fun o=>∃ y,o = some y∧∃ b:Bool,y = ((b,()),())∧(b = true ↔ b6D (ad,due,costs,rewards,paid,since,()))) ?_
 unfold a7K
 have E:b6D (ad,due,costs,rewards,paid,since,()) ↔ (ad.val ≠ 0∧due.val + paid.val = costs.val + rewards.val∧(since.val = 0 ↔ due.val = 0)):=Iff.rfl
 have from_:∀ a:U,∃ y,a0B K0 ((a,()),()) = some y∧∃ r,y = ((r,()),())∧IsB r a.val:=fun a=>by
  obtain ⟨r,h1,h2⟩:=a0X a
  exact ⟨_,h1,r,rfl,h2⟩
 refine Wp.call (from_ due) ?_
 rintro _ ⟨d,rfl,hd⟩
 refine Wp.call (from_ paid) ?_
 rintro _ ⟨q,rfl,hq⟩
 obtain ⟨r1,g1,k1⟩:=a9P hd hq (c0V hd) (c0V hq)
 refine Wp.optF g1 ?_
 refine Wp.call (from_ costs) ?_
 rintro _ ⟨c,rfl,hc⟩
 refine Wp.call (from_ rewards) ?_
 rintro _ ⟨w,rfl,hw⟩
 obtain ⟨r2,g2,k2⟩:=a9P hc hw (c0V hc) (c0V hw)
 refine Wp.optF g2 ?_
 have t1:=due.lt
 have t2:=paid.lt
 have t3:=costs.lt
 have t4:=rewards.lt
 have hp:U.top + U.top ≤ 65536 ^ 17:=by decide
 refine Wp.brn (fun h=>?_) (fun h=>?_)
 ·
  have h:ad.val ≠ 0:=by have:=iff_neb.1 h; exact this
  refine Wp.optF (c1M k1 k2 (a9L k1 17 (by omega) (by decide)) (a9L k2 17 (by omega) (by decide))) ?_
  refine Wp.brn (fun h2=>?_) (fun h2=>?_)
  ·
   have h2:due.val + paid.val = costs.val + rewards.val:=by
    have h2:=iff_eqb.1 h2
    revert h2
    show (c0Z _ _).val = (0:Int)→_
    unfold c0Z
    split
    ·
     intro h; exact absurd h (by decide)
    ·
     split
     ·
      intro h; exact absurd h (by decide)
     ·
      intro _; omega
   refine Wp.optF (c4X due) ?_
   refine ⟨_,rfl,_,rfl,?_⟩
   rw [E]
   refine (f3L _ _).trans ?_
   constructor
   ·
    intro hb
    have hb:I.eqb since (I.of .u64 0) = decide (due.val = 0):=hb
    refine ⟨h,h2,?_⟩
    constructor
    ·
     intro h0
     have:I.eqb since (I.of .u64 0) = true:=iff_eqb.2 h0
     exact of_decide_eq_true (hb.symm.trans this)
    ·
     intro h0
     have:I.eqb since (I.of .u64 0) = true:=hb.trans (decide_eq_true h0)
     exact iff_eqb.1 this
   ·
    rintro ⟨_,_,h3⟩
    by_cases h0:due.val = 0
    ·
     exact (iff_eqb.2 (h3.2 h0)).trans (decide_eq_true h0).symm
    ·
     exact (niff_eqb.2 (fun e=>h0 (h3.1 e))).trans (decide_eq_false h0).symm
  ·
   have h2:due.val + paid.val ≠ costs.val + rewards.val:=by
    intro e
    refine (niff_eqb.1 h2) ?_
    show (c0Z _ _).val = (0:Int)
    unfold c0Z
    rw [if_neg (by omega),if_neg (by omega)]
    rfl
   exact ⟨_,rfl,false,rfl,by rw [E]; simp [h2]⟩
 ·
  have h:ad.val = 0:=niff_neb.1 h
  exact ⟨_,rfl,false,rfl,by rw [E]; simp [h]⟩
end Sym

/- Tables of posters: both programs' Valid and Find. -/
namespace Sym
open Go
def TabTo (l:List Post) (i:Nat):Prop:=∀ k,k < i→b6D (rdL dP l k)∧(0 < k→(Post.addr (rdL dP l (k - 1))).val < (Post.addr (rdL dP l k)).val)
theorem TabTo.succ {l:List Post} {i:Nat} (h:TabTo l i) (h1:b6D (rdL dP l i)) (h2:0 < i→(Post.addr (rdL dP l (i - 1))).val < (Post.addr (rdL dP l i)).val):TabTo l (i + 1):=by
 intro k hk
 rcases (by omega:k < i ∨ k = i) with h3 | rfl
 ·
  exact h k h3
 ·
  exact ⟨h1,h2⟩
theorem f1L {l:List Post} {i:Nat} (hi:i < l.length) (h:¬ (b6D (rdL dP l i)∧(0 < i→(Post.addr (rdL dP l (i - 1))).val < (Post.addr (rdL dP l i)).val))):c5F l = false:=tabB_f.2 fun ht=>h (ht.2 i hi)
theorem c1P {l:List Post} (hl:l.length ≤ 1073741824):a4B K0 ((l,()),()) = some ((c5F l,()),()):=by
 refine Wp.out (T:=fun o=>o = some ((c5F l,()),())) ?_
 unfold a4B
 simp only [a6F,a9I,c0H,b4M]
 refine Wp.brn (fun hc=>?_) (fun hc=>?_)
 ·
  have hc:=iff_ltb.1 hc
  rw [a0V (by omega),show (I.of .i64 64).val = 64 from rfl] at hc
  have:c5F l = false:=tabB_f.2 fun ht=>by have:=ht.1; omega
  rw [this]
  rfl
 ·
  have hc:=niff_ltb.1 hc
  rw [a0V (by omega),show (I.of .i64 64).val = 64 from rfl] at hc
  have h64:l.length ≤ 64:=by omega
  refine Wp.iter (fun s=>∃ i,s = ((l,(i6 i,())),())∧i ≤ l.length∧TabTo l i) (fun s=>l.length - s.1.2.1.val.toNat) ?_ ⟨0,rfl,by omega,fun k hk=>by omega⟩ ?_
  ·
   rintro s ⟨i,rfl,hi,ht⟩
   simp only [a2M (show i < 9223372036854775808 by omega) (show l.length < 9223372036854775808 by omega),a2M (show 0 < 9223372036854775808 by omega) (show i < 9223372036854775808 by omega),a3C (show i < 9223372036854775808 by omega),a3H (show i + 1 < 9223372036854775808 by omega)]
   refine Wp.brn (fun hc=>?_) (fun hc=>?_)
   ·
    have hc:=of_decide_eq_true hc
    have hm:l.length - (i6 (i + 1)).val.toNat < l.length - (i6 i).val.toNat:=by rw [a0V (by omega),a0V (by omega)]; omega
    have bi:inB (i6 i) l.length = true:=a3D (by omega) (by omega)
    refine Wp.brnT bi ?_
    refine Wp.call (d2T _) ?_
    rintro _ ⟨b,rfl,hb⟩
    refine Wp.brn (fun h=>?_) (fun h=>?_)
    ·
     have hbf:b = false:=by cases b with | false=>rfl | true=>exact absurd h (by decide)
     refine Wp.done ?_
     rw [f1L hc fun h2=>by have:=hb.2 h2.1; rw [hbf] at this; cases this]
     rfl
    ·
     have hbt:b = true:=by cases b with | true=>rfl | false=>exact absurd h (by decide)
     have hE:=hb.1 hbt
     refine Wp.brn (fun h0=>?_) (fun h0=>?_)
     ·
      have h0:=of_decide_eq_true h0
      simp only [b9I (show i < 9223372036854775808 by omega) (show 1 ≤ i by omega),a3C (show i - 1 < 9223372036854775808 by omega)]
      refine Wp.brnT bi (Wp.brnT (a3D (by omega) (by omega)) ?_)
      refine Wp.brn (fun hl=>?_) (fun hl=>?_)
      ·
       have hl:=iff_leb.1 hl
       refine Wp.done ?_
       rw [f1L hc fun h2=>by have:=h2.2 h0; exact absurd this (Int.not_lt.2 hl)]
       rfl
      ·
       have hl:=niff_leb.1 hl
       exact Wp.again ⟨i + 1,rfl,by omega,ht.succ hE fun _=>hl⟩ hm
     ·
      have h0:=of_decide_eq_false h0
      exact Wp.again ⟨i + 1,rfl,by omega,ht.succ hE fun h=>by omega⟩ hm
   ·
    have hc:=of_decide_eq_false hc
    refine Wp.done ?_
    rw [tabB_t.2 ⟨h64,fun k hk=>ht k (by omega)⟩]
    rfl
  ·
   rw [a6G]
   show l.length - _ < _
   omega
def atN (l:List Post) (a:I .u64):Nat:=l.findIdx fun p=>I.eqb (Post.addr p) a
def atI (l:List Post) (a:I .u64):I .i64:=if atN l a < l.length then i6 (atN l a) else I.of .i64 (-1)
theorem f7J {l:List Post} {a:I .u64} {i:Nat} (hi:i < l.length) (h1:I.eqb (Post.addr (rdL dP l i)) a = true) (h2:∀ k,k < i→I.eqb (Post.addr (rdL dP l k)) a = false):atN l a = i:=by
 unfold atN
 rw [List.findIdx_eq hi]
 refine ⟨by rw [← a4N dP l i hi]; exact h1,fun k hk=>?_⟩
 rw [← a4N dP l k (by omega)]
 exact h2 k hk
theorem f3J {l:List Post} {a:I .u64} (h2:∀ k,k < l.length→I.eqb (Post.addr (rdL dP l k)) a = false):atN l a = l.length:=by
 unfold atN
 rw [List.findIdx_eq_length]
 intro x hx
 obtain ⟨k,hk,rfl⟩:=c4F dP hx
 exact h2 k hk
theorem c9L {l:List Post} (a:I .u64) (hl:l.length ≤ 1073741824):a6S K0 ((l,(a,())),()) = some ((atI l a,()),()):=by
 refine Wp.out (T:=fun o=>o = some ((atI l a,()),())) ?_
 unfold a6S
 simp only [a6F,a9I,c0H,b4M]
 refine Wp.iter (fun s=>∃ i,s = ((l,(a,(i6 i,()))),())∧i ≤ l.length∧∀ k,k < i→I.eqb (Post.addr (rdL dP l k)) a = false) (fun s=>l.length - s.1.2.2.1.val.toNat) ?_ ⟨0,rfl,by omega,fun k hk=>by omega⟩ ?_
 ·
  rintro s ⟨i,rfl,hi,ht⟩
  simp only [a2M (show i < 9223372036854775808 by omega) (show l.length < 9223372036854775808 by omega),a3C (show i < 9223372036854775808 by omega),a3H (show i + 1 < 9223372036854775808 by omega)]
  refine Wp.brn (fun hc=>?_) (fun hc=>?_)
  ·
   have hc:=of_decide_eq_true hc
   refine Wp.brnT (a3D (by omega) (by omega)) ?_
   refine Wp.brn (fun h=>?_) (fun h=>?_)
   ·
    refine Wp.done ?_
    have e:=f7J hc h ht
    unfold atI
    rw [e,if_pos hc]
    rfl
   ·
    refine Wp.again ⟨i + 1,rfl,by omega,fun k hk=>?_⟩ (by show l.length - (i6 (i + 1)).val.toNat < l.length - (i6 i).val.toNat; rw [a0V (by omega),a0V (by omega)]; omega)
    rcases (by omega:k < i ∨ k = i) with h3 | rfl
    ·
     exact ht k h3
    ·
     exact h
  ·
   have hc:=of_decide_eq_false hc
   refine Wp.done ?_
   have e:=f3J fun k hk=>ht k (by omega)
   unfold atI
   rw [if_neg (by omega)]
   rfl
 ·
  rw [a6G]
  show l.length - _ < _
  omega
end Sym

/- Tables of posters: Settle, sums. -/
namespace Sym
open Go
theorem b2N (a:U):∃ y,a0B K0 ((a,()),()) = some y∧∃ r,y = ((r,()),())∧IsB r a.val:=by
 obtain ⟨r,h1,h2⟩:=a0X a
 exact ⟨_,h1,r,rfl,h2⟩
theorem c8G (a b:U):a7H K0 ((a,(b,())),()) = some (((c5H (a.val + b.val)).1,((c5H (a.val + b.val)).2,())),()):=by
 refine Wp.out (T:=fun o=>o = _) ?_
 unfold a7H
 refine Wp.call (b2N a) ?_
 rintro _ ⟨x,rfl,hx⟩
 refine Wp.call (b2N b) ?_
 rintro _ ⟨y,rfl,hy⟩
 obtain ⟨r,g,k⟩:=a9P hx hy (c0V hx) (c0V hy)
 refine Wp.optF g ?_
 have t1:=a.lt
 have t2:=b.lt
 have hp:U.top + U.top ≤ 65536 ^ 17:=by decide
 refine Wp.optF (Checked_ok' k (a9L k 17 (by omega) (by decide))) ?_
 rfl
theorem c1Z (a b:U):a4X K0 ((a,(b,())),()) = some (((e8N a b).1,((e8N a b).2,())),()):=by
 refine Wp.out (T:=fun o=>o = _) ?_
 unfold a4X
 refine Wp.call (b2N a) ?_
 rintro _ ⟨x,rfl,hx⟩
 refine Wp.call (b2N b) ?_
 rintro _ ⟨y,rfl,hy⟩
 refine Wp.optF (c1M hx hy (c0V hx) (c0V hy)) ?_
 have hc:I.ltb (c0Z a.val b.val) (I.of .i64 0) = decide (a.val < b.val):=by
  unfold c0Z
  by_cases h:a.val < b.val
  ·
   rw [if_pos h,decide_eq_true h]; rfl
  ·
   rw [if_neg h,decide_eq_false h]
   split <;> rfl
 refine Wp.brn (fun h=>?_) (fun h=>?_)
 ·
  have h:a.val < b.val:=of_decide_eq_true (hc.symm.trans h)
  unfold e8N
  rw [if_neg (by omega)]
  rfl
 ·
  have h:¬ a.val < b.val:=of_decide_eq_false (hc.symm.trans h)
  obtain ⟨r,g,k⟩:=c6H hx hy (by omega) (c0V hx)
  refine Wp.optF g ?_
  refine Wp.optF (a3B k (by have:=a.lt; omega)) ?_
  unfold e8N
  rw [if_pos (by omega)]
  rfl
noncomputable def settled (p:Post) (n:U):Post :=
 (p.addr,(U.of (p.due.val - n.val),(p.costs,(p.rewards,(U.of (p.paid.val + n.val),((if p.due.val - n.val = 0 then I.of .u64 0 else p.since),()))))))
noncomputable def b5Z (l:List Post) (a:I .u64) (n:U):List Post × I .i64 :=
 if c5F l = true then
  if atN l a < l.length then
   if n.val ≤ (Post.due (rdL dP l (atN l a))).val then
    if (Post.paid (rdL dP l (atN l a))).val + n.val < U.top then (setAt l (atN l a) (settled (rdL dP l (atN l a)) n),I.of .i64 0)
    else ([],I.of .i64 4)
   else ([],I.of .i64 10)
  else ([],I.of .i64 8)
 else ([],I.of .i64 2)
theorem d5N {l:List Post} {a:I .u64} (hl:l.length ≤ 1073741824):I.ltb (atI l a) (I.of .i64 0) = decide (¬ atN l a < l.length):=by
 unfold atI
 by_cases h:atN l a < l.length
 ·
  rw [if_pos h,decide_eq_false (by simpa using h)]
  exact niff_ltb.2 (by rw [a0V (by omega)]; show (0:Int) ≤ _; omega)
 ·
  rw [if_neg h,decide_eq_true h]
  rfl
theorem d1P {X:Type} (l:List X) (i:Nat) (v w:X):setAt (setAt l i v) i w = setAt l i w:=by simp [a7X]
theorem e6T (l:List Post) (a:I .u64) (n:U) (hl:l.length ≤ 1073741824):b0X K0 ((l,(a,(n,()))),()) = some (((b5Z l a n).1,((b5Z l a n).2,())),()):=by
 refine Wp.out (T:=fun o=>o = _) ?_
 unfold b0X
 refine Wp.optF (c1P hl) ?_
 unfold b5Z
 refine Wp.brn (fun h=>?_) (fun h=>?_)
 ·
  have h:c5F l = false:=by have:a3I (c5F l) = true:=h; revert this; cases c5F l <;> simp [a3I]
  rw [if_neg (by rw [h]; simp)]
  rfl
 ·
  have h:c5F l = true:=by have:a3I (c5F l) = false:=h; revert this; cases c5F l <;> simp [a3I]
  rw [if_pos h]
  refine Wp.optF (c9L a hl) ?_
  refine Wp.brn (fun h=>?_) (fun h=>?_)
  ·
   have h:=of_decide_eq_true ((d5N hl).symm.trans h)
   rw [if_neg h]
   rfl
  ·
   have h:=of_decide_eq_false ((d5N hl).symm.trans h)
   have h:atN l a < l.length:=by simpa using h
   rw [if_pos h]
   have e:atI l a = i6 (atN l a):=if_pos h
   have en:a2D ([]:List Post) l = l:=rfl
   simp only [e,a3C (show atN l a < 9223372036854775808 by omega),pw,d1P,c2X,en]
   have bi:inB (i6 (atN l a)) l.length = true:=a3D h (by omega)
   refine Wp.brnT (a8R hl) (Wp.brnT bi ?_)
   refine Wp.optF (c1Z _ _) ?_
   simp only [true_and,h,if_true]
   generalize rdL dP l (atN l a) = p
   by_cases hd:n.val ≤ (Post.due p).val
   ·
    rw [if_pos hd]
    have es:e8N (Post.due p) n = (U.of ((Post.due p).val - n.val),I.of .i64 0):=if_pos hd
    rw [es]
    refine Wp.brnF rfl ?_
    refine Wp.optF (c8G _ _) ?_
    by_cases hp:(Post.paid p).val + n.val < U.top
    ·
     rw [if_pos hp]
     rw [c6E hp]
     refine Wp.brnF rfl ?_
     refine Wp.optF (c4X _) ?_
     have hv:(U.of ((Post.due p).val - n.val)).val = (Post.due p).val - n.val:=U.val_of (by have:=U.lt (Post.due p); omega)
     refine Wp.brn (fun hz=>?_) (fun hz=>?_)
     ·
      have hz:=of_decide_eq_true hz
      have hz:(Post.due p).val - n.val = 0:=hv.symm.trans hz
      unfold settled
      rw [if_pos hz]
      rfl
     ·
      have hz:=of_decide_eq_false hz
      have hz:¬ (Post.due p).val - n.val = 0:=fun e=>hz (hv.trans e)
      unfold settled
      rw [if_neg hz]
      rfl
    ·
     rw [if_neg hp]
     have e4:c5H ((Post.paid p).val + n.val) = (U.of 0,I.of .i64 4):=d7I (Nat.le_of_not_lt hp)
     rw [show c5H (U.val p.2.2.2.2.1 + n.val) = (U.of 0,I.of .i64 4) from e4]
     exact Wp.brnT rfl rfl
   ·
    rw [if_neg hd]
    have es:e8N (Post.due p) n = (U.of 0,I.of .i64 4):=if_neg hd
    rw [es]
    exact Wp.brnT rfl rfl
end Sym

/- Payments: sums, both programs' plans. -/
namespace Sym
open Go
abbrev Pay:Type:=a0E
noncomputable abbrev dY:Pay:=a1H
def b2E (l:List Nat):Nat:=l.foldr (· + ·) 0
theorem e4U (l m:List Nat):b2E (l ++ m) = b2E l + b2E m:=by
 induction l with
 | nil=>simp [b2E]
 | cons x l ih=>simp only [b2E,List.cons_append,List.foldr_cons] at *; omega
theorem e0A {X:Type} (d:X) (f:X→Nat) {l:List X} {i:Nat} (h:i < l.length):b2E ((l.take (i + 1)).map f) = b2E ((l.take i).map f) + f (rdL d l i):=by
 rw [List.take_succ_eq_append_getElem h,List.map_append,e4U,← a4N d l i h]
 simp [b2E]
theorem g1K {X:Type} (f:X→Nat) (l:List X) (i:Nat):b2E ((l.take i).map f) ≤ b2E (l.map f):=by
 have:b2E (l.map f) = b2E ((l.take i).map f) + b2E ((l.drop i).map f):=by
  rw [← e4U,← List.map_append,List.take_append_drop]
 omega
theorem c7O {X:Type} (f:X→Nat) (B:Nat) (hB:∀ x,f x < B):∀ l:List X,b2E (l.map f) ≤ l.length * B
 | []=>by simp [b2E]
 | x :: l=>by
  have:=c7O f B hB l
  have:=hB x
  simp only [b2E,List.map_cons,List.foldr_cons,List.length_cons,Nat.succ_mul] at *
  omega
def amt (q:Pay):Nat:=U.val q.2.1
theorem g3A (q:Pay):amt q < U.top:=U.lt _
theorem f0P {l:List Pay} (hl:l.length ≤ 1073741824):b1F K0 ((l,()),()) = some (((c5H (b2E (l.map amt))).1,((c5H (b2E (l.map amt))).2,())),()):=by
 refine Wp.out (T:=fun o=>o = _) ?_
 unfold b1F
 simp only [a6F,a9I,c0H,b4M]
 have hb:∀ i,b2E ((l.take i).map amt) < 65536 ^ 19:=fun i=>by
  have h1:=g1K amt l i
  have h2:=c7O amt U.top g3A l
  have h3:l.length * U.top ≤ 1073741824 * U.top:=Nat.mul_le_mul_right _ hl
  have h4:1073741824 * U.top < 65536 ^ 19:=by decide
  omega
 refine Wp.iter (fun s=>∃ i r,s = ((l,(r,(i6 i,()))),(Z_U,()))∧i ≤ l.length∧IsB r (b2E ((l.take i).map amt))) (fun s=>l.length - s.1.2.2.1.val.toNat) ?_ ⟨0,[],rfl,by omega,c0R⟩ ?_
 ·
  rintro s ⟨i,r,rfl,hi,hr⟩
  simp only [a2M (show i < 9223372036854775808 by omega) (show l.length < 9223372036854775808 by omega),a3C (show i < 9223372036854775808 by omega),a3H (show i + 1 < 9223372036854775808 by omega)]
  refine Wp.brn (fun hc=>?_) (fun hc=>?_)
  ·
   have hc:=of_decide_eq_true hc
   refine Wp.brnT (a3D (by omega) (by omega)) ?_
   refine Wp.call (b2N _) ?_
   rintro _ ⟨x,rfl,hx⟩
   obtain ⟨z,g,k⟩:=a9P hr hx (a9L hr 19 (hb i) (by decide)) (c0V hx)
   refine Wp.optF g ?_
   refine Wp.again ⟨i + 1,z,rfl,by omega,?_⟩ (by show l.length - (i6 (i + 1)).val.toNat < l.length - (i6 i).val.toNat; rw [a0V (by omega),a0V (by omega)]; omega)
   rw [e0A dY amt hc]
   exact k
  ·
   have hc:=of_decide_eq_false hc
   have hbl:=hb l.length
   rw [List.take_of_length_le (by omega)] at hr hbl
   refine Wp.done (Wp.optF (Checked_ok' hr (a9L hr 19 hbl (by decide))) ?_)
   rfl
 ·
  rw [a6G]
  show l.length - _ < _
  omega
def b7O (p:Post):Nat:=U.val p.due
noncomputable def b3A:List Post→Nat→List Pay
 | [],_=>[]
 | p :: r,n=>if n = 0 then [] else (p.addr,(U.of (min (b7O p) n),())) :: b3A r (n - min (b7O p) n)
theorem c7U (l:List Post):b3A l 0 = []:=by cases l <;> simp [b3A]
theorem d9P:∀ (l:List Post) (n:Nat),(b3A l n).length ≤ l.length
 | [],n=>Nat.le_refl _
 | p :: r,n=>by
  have:=d9P r (n - min (b7O p) n)
  simp only [b3A]
  split <;> simp <;> omega
noncomputable def f5P (l:List Post) (pool:U):List Pay × I .i64 :=
 if c5F l = true then (b3A ((d3B l).map (·.1)) pool.val,I.of .i64 0) else ([],I.of .i64 2)
theorem h0P {a:U}:a3I (Ty.eqb (.arr 4 (.int .u64)) a Z_U) = decide (a.val ≠ 0):=by
 rw [f7L]
 by_cases h:a.val = 0 <;> simp [h,a3I]
theorem e1R {a b:List Dg} {m n:Nat} (ha:IsB a m) (hb:IsB b n) (hal:a.length ≤ 1000000) (hbl:b.length ≤ 1000000):∃ y,a4K K0 ((a,(b,())),()) = some y∧∃ r,y = ((r,()),())∧IsB r (min m n):=by
 refine Wp.out (T:=fun o=>∃ y,o = some y∧∃ r,y = ((r,()),())∧IsB r (min m n)) ?_
 unfold a4K
 refine Wp.optF (c1M ha hb hal hbl) ?_
 have hc:I.ltb (I.of .i64 0) (c0Z m n) = decide (n < m):=by
  unfold c0Z
  by_cases h:m < n
  ·
   rw [if_pos h,decide_eq_false (by omega)]; rfl
  ·
   rw [if_neg h]
   by_cases h2:n < m
   ·
    rw [if_pos h2,decide_eq_true h2]; rfl
   ·
    rw [if_neg h2,decide_eq_false h2]; rfl
 refine Wp.brn (fun h=>?_) (fun h=>?_)
 ·
  have h:=of_decide_eq_true (hc.symm.trans h)
  exact ⟨_,rfl,b,rfl,by rw [Nat.min_eq_right (by omega)]; exact hb⟩
 ·
  have h:=of_decide_eq_false (hc.symm.trans h)
  exact ⟨_,rfl,a,rfl,by rw [Nat.min_eq_left (by omega)]; exact ha⟩
theorem f3T (l:List Post) (pool:U) (hl:l.length ≤ 1073741824):b2W K0 ((l,(pool,())),()) = some (((f5P l pool).1,((f5P l pool).2,())),()):=by
 refine Wp.out (T:=fun o=>o = _) ?_
 unfold b2W f5P
 refine Wp.optF (c1P hl) ?_
 refine Wp.brn (fun h=>?_) (fun h=>?_)
 ·
  have h:c5F l = false:=by have:a3I (c5F l) = true:=h; revert this; cases c5F l <;> simp [a3I]
  rw [if_neg (by rw [h]; simp)]
  rfl
 ·
  have h:c5F l = true:=by have:a3I (c5F l) = false:=h; revert this; cases c5F l <;> simp [a3I]
  rw [if_pos h]
  refine Wp.optF (e8E hl) ?_
  have hs:=d9W l
  obtain ⟨o,ho⟩:∃ o,o = (d3B l).map (·.1):=⟨_,rfl⟩
  have hol:o.length ≤ 1073741824:=by rw [ho,List.length_map]; omega
  rw [← ho]
  refine Wp.call (b2N pool) ?_
  rintro _ ⟨left0,rfl,hleft0⟩
  simp only [a6F,a9I,c0H,b4M]
  refine Wp.iter (fun s=>∃ i left n out,s = ((o,(left,(i6 i,()))),(out,()))∧i ≤ o.length∧IsB left n∧n < U.top∧out ++ b3A (o.drop i) n = b3A o pool.val∧out.length ≤ i) (fun s=>o.length - s.1.2.2.1.val.toNat) ?_ ⟨0,left0,pool.val,[],rfl,by omega,hleft0,pool.lt,rfl,by simp⟩ ?_
  ·
   rintro s ⟨i,left,n,out,rfl,hi,hleft,hn,hout,houtl⟩
   have hll:left.length ≤ 1000000:=a9L hleft 16 (by rw [← f0H]; exact hn) (by decide)
   simp only [a2M (show i < 9223372036854775808 by omega) (show o.length < 9223372036854775808 by omega),a2M (show 0 < 9223372036854775808 by omega) (show left.length < 9223372036854775808 by omega)]
   refine Wp.jn (fun s=>∃ z b,i < o.length∧n ≠ 0∧s = ((o,(left,(i6 i,(left,(z,(b,())))))),(out,()))) ?_ ?_
   ·
    rintro s ⟨z,b,hc,hn0,rfl⟩
    simp only [a3C (show i < 9223372036854775808 by omega),a3H (show i + 1 < 9223372036854775808 by omega)]
    have bi:inB (i6 i) o.length = true:=a3D (by omega) (by omega)
    refine Wp.brnT bi ?_
    refine Wp.call (b2N _) ?_
    rintro _ ⟨du,rfl,hdu⟩
    refine Wp.call (e1R hleft hdu hll (c0V hdu)) ?_
    rintro _ ⟨mn,rfl,hmn⟩
    have hmin:min n (U.val (Post.due (rdL dP o i))) ≤ n:=Nat.min_le_left _ _
    refine Wp.brnT bi ?_
    refine Wp.optF (a3B hmn (by show min n _ < _; omega)) ?_
    refine Wp.brnT (a8R (by show (out ++ [_]).length ≤ _; simp; omega)) ?_
    obtain ⟨z',g,k⟩:=c6H hleft hmn hmin hll
    refine Wp.optF g ?_
    refine Wp.again ⟨i + 1,z',n - min n (b7O (rdL dP o i)),_,rfl,by omega,k,by omega,?_,by show (out ++ [_]).length ≤ _; simp; omega⟩ (by show o.length - (i6 (i + 1)).val.toNat < o.length - (i6 i).val.toNat; rw [a0V (by omega),a0V (by omega)]; omega)
    rw [← hout,List.drop_eq_getElem_cons hc,← a4N dP o i hc]
    simp only [b3A,if_neg hn0,g0M,List.append_assoc,List.singleton_append]
    rw [Nat.min_comm (b7O (rdL dP o i)) n]
    rfl
   ·
    intro j hj
    refine Wp.brn (fun hc=>?_) (fun hc=>?_)
    ·
     have hc:=of_decide_eq_true hc
     refine Wp.brn (fun hz=>?_) (fun hz=>?_)
     ·
      have hz:=of_decide_eq_true hz
      refine hj _ ⟨_,_,hc,?_,rfl⟩
      intro e
      subst e
      have:=(hleft.len (k:=0)).2 (by decide)
      omega
     ·
      have hz:=of_decide_eq_false hz
      have:n = 0:=by
       have:=(hleft.len (k:=0)).1 (by omega)
       simpa using this
      subst this
      rw [c7U,List.append_nil] at hout
      refine Wp.done ?_
      rw [← hout]
      rfl
    ·
     have hc:=of_decide_eq_false hc
     rw [List.drop_eq_nil_iff.2 (by omega)] at hout
     refine Wp.done ?_
     rw [← hout]
     simp [b3A]
     rfl
  ·
   rw [a6G]
   show o.length - _ < _
   omega
end Sym

/- Tables of posters: what is generated is well formed. -/
namespace Sym
open Go
theorem TableOk.lt {l:List Post} (h:TableOk l):∀ j,j < l.length→∀ i,i < j→(Post.addr (rdL dP l i)).val < (Post.addr (rdL dP l j)).val:=by
 intro j
 induction j with
 | zero=>intro _ i hi; omega
 | succ j ih =>
  intro hj i hi
  have h1:=(h.2 (j + 1) hj).2 (by omega)
  rw [Nat.add_sub_cancel] at h1
  rcases (by omega:i < j ∨ i = j) with h2 | rfl
  ·
   have:=ih (by omega) i h2
   omega
  ·
   exact h1
theorem table_iff {l:List Post}:TableOk l ↔ l.length ≤ 64∧(∀ p ∈ l,b6D p)∧l.Pairwise fun p q=>(Post.addr p).val < (Post.addr q).val:=by
 constructor
 ·
  intro h
  refine ⟨h.1,fun p hp=>?_,List.pairwise_iff_getElem.2 fun i j hi hj hij=>?_⟩
  ·
   obtain ⟨k,hk,rfl⟩:=c4F dP hp
   exact (h.2 k hk).1
  ·
   rw [← a4N dP l i hi,← a4N dP l j hj]
   exact h.lt j hj i hij
 ·
  rintro ⟨h1,h2,h3⟩
  refine ⟨h1,fun i hi=>⟨h2 _ (c3T dP l i hi),fun h0=>?_⟩⟩
  have:=List.pairwise_iff_getElem.1 h3 (i - 1) i (by omega) hi (by omega)
  rw [a4N dP l i hi,a4N dP l (i - 1) (by omega)]
  exact this
theorem f8H {l:List Post} (h:TableOk l) {k:Nat} (hk:k < l.length) {v:Post} (hv:b6D v) (ha:Post.addr v = Post.addr (rdL dP l k)):TableOk (setAt l k v):=by
 have hlen:(setAt l k v).length = l.length:=by rw [a7X,List.length_set]
 have haddr:∀ i,Post.addr (rdL dP (setAt l k v) i) = Post.addr (rdL dP l i):=by
  intro i
  rw [c2X]
  split
  ·
   rename_i e
   rw [ha,e.1]
  ·
   rfl
 refine ⟨by rw [hlen]; exact h.1,fun i hi=>?_⟩
 rw [hlen] at hi
 rw [haddr,haddr]
 refine ⟨?_,(h.2 i hi).2⟩
 rw [c2X]
 split
 ·
  exact hv
 ·
  exact (h.2 i hi).1
theorem e7Z {p:Post} {n:U} (h:b6D p) (h1:n.val ≤ (Post.due p).val) (h2:(Post.paid p).val + n.val < U.top):b6D (settled p n):=by
 obtain ⟨ha,hb,hc⟩:=h
 have hd:=U.lt (Post.due p)
 refine ⟨ha,?_,?_⟩
 ·
  show (U.of ((Post.due p).val - n.val)).val + (U.of ((Post.paid p).val + n.val)).val = _
  rw [U.val_of (by omega),U.val_of h2]
  show _ = (Post.costs p).val + (Post.rewards p).val
  omega
 ·
  show (if (Post.due p).val - n.val = 0 then I.of .u64 0 else Post.since p).val = 0 ↔ (U.of ((Post.due p).val - n.val)).val = 0
  rw [U.val_of (by omega)]
  split
  ·
   rename_i e
   rw [e]
   exact ⟨fun _=>rfl,fun _=>rfl⟩
  ·
   rename_i e
   rw [hc]
   omega
theorem e9V {l:List Post} (h:TableOk l):a3I (c5F l) = false:=by rw [tabB_t.2 h]; rfl
theorem f4P {l:List Post} {a:I .u64} (h:¬ atN l a < l.length):∀ k,k < l.length→(Post.addr (rdL dP l k)).val ≠ a.val:=by
 intro k hk e
 have h1:atN l a ≤ l.length:=List.findIdx_le_length
 have h2:atN l a = l.length:=by omega
 unfold atN at h2
 rw [List.findIdx_eq_length] at h2
 have:=h2 _ (c3T dP l k hk)
 exact absurd (iff_eqb.2 e) (by rw [this]; simp)
end Sym

/- Tables of posters: what is generated is well formed: Accrue, the calls. -/
namespace Sym
open Go
theorem e6C {p:Post} (h:b6D p) (c w:U) (s:I .u64) (hs:s.val ≠ 0) (h1:(Post.due p).val + (c.val + w.val) < U.top) (h2:(Post.costs p).val + c.val < U.top) (h3:(Post.rewards p).val + w.val < U.top) (s':I .u64)
  (hs':(s' = s∧(Post.due p).val = 0∧0 < (Post.due p).val + (c.val + w.val)) ∨ (s' = Post.since p∧¬ ((Post.due p).val = 0∧0 < (Post.due p).val + (c.val + w.val)))) :
  b6D (p.1,(U.of ((Post.due p).val + (c.val + w.val)),(U.of ((Post.costs p).val + c.val),(U.of ((Post.rewards p).val + w.val),(p.2.2.2.2.1,(s',())))))):=by
 obtain ⟨ha,hb,hc⟩:=h
 refine ⟨ha,?_,?_⟩
 ·
  show (U.of _).val + (Post.paid p).val = (U.of _).val + (U.of _).val
  rw [U.val_of h1,U.val_of h2,U.val_of h3]
  omega
 ·
  show s'.val = 0 ↔ (U.of _).val = 0
  rw [U.val_of h1]
  rcases hs' with ⟨rfl,e1,e2⟩ | ⟨rfl,e⟩
  ·
   constructor
   ·
    intro e; exact absurd e hs
   ·
    intro e; omega
  ·
   rw [hc]
   omega
theorem d4I {l:List Dg} {n:Nat} (hl:IsB l n) (hlen:l.length ≤ 1000000):a1L K0 ((l,()),()) = some ((decide (n < U.top),()),()):=c2H hl (by omega)
theorem f1O {l:List Dg} {n:Nat} (h:IsB l n):0 < l.length ↔ 0 < n:=by
 have:=h.len (k:=0)
 simp only [Nat.pow_zero] at this
 omega
theorem f9L {l:List Dg} {n:Nat} (h:IsB l n) (hl:l.length ≤ 1000000):I.ltb (I.of .i64 0) (I.ofNat .i64 (a0G l)) = decide (0 < n):=by
 rw [c0H,a9I,a6F,a2M (by omega) (by omega)]
 by_cases hx:0 < n
 ·
  rw [decide_eq_true hx,decide_eq_true ((f1O h).2 hx)]
 ·
  rw [decide_eq_false hx,decide_eq_false (fun h'=>hx ((f1O h).1 h'))]
end Sym

/- Payments: Apply, the laws that compare with the reference. -/
namespace Sym
open Go
noncomputable def a3J:List Post→List Pay→List Post × I .i64
 | out,[]=>(out,I.of .i64 0)
 | out,q :: r=>if (b5Z out q.1 q.2.1).2.val = 0 then a3J (b5Z out q.1 q.2.1).1 r else ([],(b5Z out q.1 q.2.1).2)
theorem e7N {l:List Post} {a:I .u64} {n:U} (h:(b5Z l a n).2.val = 0):(b5Z l a n).1.length = l.length:=by
 unfold b5Z at h ⊢
 split at h
 ·
  split at h
  ·
   split at h
   ·
    split at h
    ·
     rename_i h1 h2 h3 h4
     rw [if_pos h1,if_pos h2,if_pos h3,if_pos h4]
     show (setAt l _ _).length = _
     rw [a7X,List.length_set]
    ·
     exact absurd h (by decide)
   ·
    exact absurd h (by decide)
  ·
   exact absurd h (by decide)
 ·
  exact absurd h (by decide)
theorem f2O (l:List Post) (p:List Pay) (hl:l.length ≤ 1073741824) (hp:p.length ≤ 1073741824):b2C K0 ((l,(p,())),()) = some (((a3J l p).1,((a3J l p).2,())),()):=by
 refine Wp.out (T:=fun o=>o = _) ?_
 unfold b2C
 refine Wp.brnT (a8R (by show l.length ≤ _; exact hl)) ?_
 simp only [a6F,a9I,c0H,b4M]
 refine Wp.iter (fun s=>∃ i out,s = ((p,(out,(i6 i,()))),())∧i ≤ p.length∧out.length ≤ 1073741824∧a3J out (p.drop i) = a3J l p) (fun s=>p.length - s.1.2.2.1.val.toNat) ?_ ⟨0,l,rfl,by omega,hl,rfl⟩ ?_
 ·
  rintro s ⟨i,out,rfl,hi,ho,he⟩
  simp only [a2M (show i < 9223372036854775808 by omega) (show p.length < 9223372036854775808 by omega),a3C (show i < 9223372036854775808 by omega),a3H (show i + 1 < 9223372036854775808 by omega)]
  refine Wp.brn (fun hc=>?_) (fun hc=>?_)
  ·
   have hc:=of_decide_eq_true hc
   have bi:inB (i6 i) p.length = true:=a3D (by omega) (by omega)
   refine Wp.brnT bi (Wp.brnT bi ?_)
   rw [List.drop_eq_getElem_cons hc,← a4N dY p i hc] at he
   simp only [a3J] at he
   refine Wp.optF (e6T out _ _ ho) ?_
   refine Wp.brn (fun h=>?_) (fun h=>?_)
   ·
    have h:=iff_neb.1 h
    have h:¬ (b5Z out (rdL dY p i).1 (rdL dY p i).2.1).2.val = 0:=h
    rw [if_neg h] at he
    rw [← he]
    exact Wp.done rfl
   ·
    have h:=niff_neb.1 h
    have h:(b5Z out (rdL dY p i).1 (rdL dY p i).2.1).2.val = 0:=h
    rw [if_pos h] at he
    exact Wp.again ⟨i + 1,_,rfl,by omega,by rw [e7N h]; exact ho,he⟩ (by show p.length - (i6 (i + 1)).val.toNat < p.length - (i6 i).val.toNat; rw [a0V (by omega),a0V (by omega)]; omega)
  ·
   have hc:=of_decide_eq_false hc
   rw [List.drop_eq_nil_iff.2 (by omega)] at he
   refine Wp.done ?_
   rw [← he]
   rfl
 ·
  rw [a6G]
  show p.length - _ < _
  omega
theorem d7N {n:Nat} {X:Type} {l:List X} (h:l.length ≤ LIM) (hn:n < 1000000) (hc:I.ltb (I.of .i64 (n:Int)) (I.ofNat .i64 (a0G l)) = false):l.length ≤ n:=by
 have h:l.length ≤ 140737488355328:=h
 rw [g7Y,a9I,a6F,a2M (by omega) (by omega)] at hc
 have:=of_decide_eq_false hc
 omega
end Sym

/- Payments: the law of sums and of Apply. -/
namespace Sym
open Go
end Sym

/- Payments: what a plan pays, and what the table is behind it. -/
namespace Sym
open Go
theorem f2R {l m:List Nat} (h:l.Perm m):b2E l = b2E m:=by
 induction h with
 | nil=>rfl
 | cons x _ ih=>simp only [b2E,List.foldr_cons] at *; omega
 | swap x y l=>simp only [b2E,List.foldr_cons]; omega
 | trans _ _ ih1 ih2=>exact ih1.trans ih2
theorem ow_iff {p:Post}:ow p = true ↔ b7O p ≠ 0:=by
 unfold ow
 rw [h0P]
 simp [b7O]
theorem e7V (l:List Post):b2E ((l.filter ow).map b7O) = b2E (l.map b7O):=by
 induction l with
 | nil=>rfl
 | cons p l ih =>
  rw [List.filter_cons]
  split
  ·
   simp only [b2E,List.map_cons,List.foldr_cons] at *; omega
  ·
   rename_i h
   have:b7O p = 0:=by
    have:=mt ow_iff.2 h
    omega
   simp only [b2E,List.map_cons,List.foldr_cons] at *; omega
noncomputable abbrev ord (x:List Post):List Post:=(d3B x).map (·.1)
theorem g0A (x:List Post):b2E ((ord x).map b7O) = b2E (x.map b7O):=by
 rw [← e7V x]
 exact f2R ((c3W x).map b7O)
theorem f9V {x:List Post} {p:Post} (h:p ∈ ord x):p ∈ x∧ow p = true:=List.mem_filter.1 ((c3W x).mem_iff.1 h)
theorem e9M {x:List Post} (hx:TableOk x):(ord x).Pairwise fun p q=>Post.addr p ≠ Post.addr q:=by
 have h:=(table_iff.1 hx).2.2
 have h2:(x.filter ow).Pairwise fun p q=>Post.addr p ≠ Post.addr q:=(h.filter ow).imp fun {p q} hlt e=>by rw [e] at hlt; omega
 exact (List.Perm.pairwise_iff (fun {p q} h e=>h e.symm) (c3W x)).2 h2
theorem e2Z:∀ (o:List Post) (n:Nat),n < U.top→b2E ((b3A o n).map amt) = min n (b2E (o.map b7O))
 | [],n,_=>by simp [b3A,b2E]
 | p :: r,n,hn=>by
  simp only [b3A]
  split
  ·
   rename_i h
   subst h
   simp [b2E]
  ·
   have ih:=e2Z r (n - min (b7O p) n) (by omega)
   have hv:(U.of (min (b7O p) n)).val = min (b7O p) n:=U.val_of (by omega)
   have:amt (p.addr,(U.of (min (b7O p) n),())) = min (b7O p) n:=hv
   simp only [b2E,List.map_cons,List.foldr_cons,this] at *
   omega
theorem f0B:∀ (l:List Post) (k:Nat) (v:Post),k < l.length→b2E ((setAt l k v).map b7O) + b7O (rdL dP l k) = b2E (l.map b7O) + b7O v
 | [],k,v,h=>by simp at h
 | p :: l,0,v,_=>by simp only [setAt,rdL,b2E,List.map_cons,List.foldr_cons]; omega
 | p :: l,k + 1,v,h=>by
  have:=f0B l k v (by simpa using h)
  simp only [setAt,rdL,b2E,List.map_cons,List.foldr_cons] at *
  omega
theorem f6W {out:List Post} (h:TableOk out) {p:Post} (hp:p ∈ out):atN out p.addr < out.length∧rdL dP out (atN out p.addr) = p:=by
 obtain ⟨k,hk,rfl⟩:=c4F dP hp
 have e:atN out (Post.addr (rdL dP out k)) = k:=f7J hk (iff_eqb.2 rfl) (fun j hj=>niff_eqb.2 (by have:=h.lt k hk j hj; omega))
 rw [e]
 exact ⟨hk,rfl⟩
theorem f0V {out:List Post} (h:TableOk out) {i j:Nat} (hi:i < out.length) (hj:j < out.length) (e:Post.addr (rdL dP out i) = Post.addr (rdL dP out j)):i = j:=by
 rcases Nat.lt_trichotomy i j with h1 | h1 | h1
 ·
  have:=h.lt j hj i h1; rw [e] at this; omega
 ·
  exact h1
 ·
  have:=h.lt i hi j h1; rw [e] at this; omega
theorem d4D:∀ (o:List Post) (n:Nat) (out:List Post),n < U.top→TableOk out→(∀ p ∈ o,p ∈ out∧ow p = true)→(o.Pairwise fun p q=>Post.addr p ≠ Post.addr q) →
  (a3J out (b3A o n)).2 = I.of .i64 4 ∨ ((a3J out (b3A o n)).2 = I.of .i64 0∧TableOk (a3J out (b3A o n)).1∧(a3J out (b3A o n)).1.length = out.length ∧
   (∀ i,Post.addr (rdL dP (a3J out (b3A o n)).1 i) = Post.addr (rdL dP out i)) ∧
   b2E ((a3J out (b3A o n)).1.map b7O) + b2E ((b3A o n).map amt) = b2E (out.map b7O) ∧
   (∀ i,(∀ p ∈ o,Post.addr p ≠ Post.addr (rdL dP out i))→rdL dP (a3J out (b3A o n)).1 i = rdL dP out i) ∧
   (∀ t,t + 1 < (b3A o n).length→∀ i,i < out.length→Post.addr (rdL dP out i) = Post.addr (rdL dP o t)→b7O (rdL dP (a3J out (b3A o n)).1 i) = 0))
 | [],n,out,_,ht,_,_=>.inr ⟨rfl,ht,rfl,fun _=>rfl,by simp [b3A,a3J,b2E],fun _ _=>rfl,fun t h=>by simp [b3A] at h⟩
 | p :: r,n,out,hn,ht,hin,hap=>by
  by_cases h0:n = 0
  ·
   subst h0
   rw [c7U]
   exact .inr ⟨rfl,ht,rfl,fun _=>rfl,by simp [a3J,b2E],fun _ _=>rfl,fun t h=>by simp at h⟩
  ·
   have hpl:b3A (p :: r) n = (p.addr,(U.of (min (b7O p) n),())) :: b3A r (n - min (b7O p) n):=if_neg h0
   rw [hpl]
   simp only [a3J]
   have ⟨hk,hkp⟩:=f6W ht (hin p (by simp)).1
   obtain ⟨m,hm⟩:∃ m,m = min (b7O p) n:=⟨_,rfl⟩
   rw [← hm]
   have hmv:(U.of m).val = m:=U.val_of (by omega)
   have hmd:m ≤ b7O p:=by omega
   have hst:b5Z out p.addr (U.of m) = if (Post.paid p).val + m < U.top then (setAt out (atN out p.addr) (settled p (U.of m)),I.of .i64 0) else ([],I.of .i64 4):=by
    unfold b5Z
    rw [if_pos (tabB_t.2 ht),if_pos hk,hkp,hmv,if_pos (show m ≤ (Post.due p).val from hmd)]
   rw [hst]
   by_cases hpd:(Post.paid p).val + m < U.top
   ·
    rw [if_pos hpd]
    simp only [show (I.of .i64 0).val = 0 from rfl,if_true]
    obtain ⟨k,hkk⟩:∃ k,k = atN out p.addr:=⟨_,rfl⟩
    rw [← hkk] at hk hkp ⊢
    have hT:TableOk (setAt out k (settled p (U.of m))):=f8H ht hk (e7Z ((table_iff.1 ht).2.1 p (hin p (by simp)).1) (by rw [hmv]; exact hmd) (by rw [hmv]; exact hpd)) (by rw [hkp]; rfl)
    have ⟨hap1,hap2⟩:=List.pairwise_cons.1 hap
    have hlen:(setAt out k (settled p (U.of m))).length = out.length:=by rw [a7X,List.length_set]
    have haddr:∀ i,Post.addr (rdL dP (setAt out k (settled p (U.of m))) i) = Post.addr (rdL dP out i):=by
     intro i
     rw [c2X]
     split
     ·
      rename_i e
      rw [e.1,hkp]
      rfl
     ·
      rfl
    have hin':∀ q ∈ r,q ∈ setAt out k (settled p (U.of m))∧ow q = true:=by
     intro q hq
     have ⟨h1,h2⟩:=hin q (List.mem_cons_of_mem _ hq)
     refine ⟨?_,h2⟩
     obtain ⟨i,hi,e⟩:=c4F dP h1
     have hik:i ≠ k:=by
      rintro rfl
      rw [hkp] at e
      exact hap1 q hq (by rw [e])
     have:rdL dP (setAt out k (settled p (U.of m))) i = q:=by rw [c2X,if_neg (by omega),e]
     rw [← this]
     exact c3T dP _ i (by rw [hlen]; exact hi)
    have hsum:=f0B out k (settled p (U.of m)) hk
    rw [hkp] at hsum
    have hdn:b7O (settled p (U.of m)) = b7O p - m:=by
     show (U.of ((Post.due p).val - (U.of m).val)).val = _
     rw [hmv,U.val_of (by have:=U.lt (Post.due p); omega)]
     rfl
    have ham:amt (p.addr,(U.of m,())) = m:=hmv
    rcases d4D r (n - m) (setAt out k (settled p (U.of m))) (by omega) hT hin' hap2 with h | ⟨g1,g2,g3,g4,g5,g6,g7⟩
    ·
     exact .inl h
    ·
     refine .inr ⟨g1,g2,g3.trans hlen,fun i=>(g4 i).trans (haddr i),?_,fun i hi=>?_,fun t htl i hi he=>?_⟩
     ·
      simp only [List.map_cons,ham]
      have:b2E (m :: (b3A r (n - m)).map amt) = m + b2E ((b3A r (n - m)).map amt):=rfl
      rw [this]
      omega
     ·
      rw [g6 i (fun q hq=>by rw [haddr]; exact hi q (List.mem_cons_of_mem _ hq)),c2X,if_neg]
      rintro ⟨rfl,_⟩
      exact hi p (by simp) (by rw [hkp])
     ·
      cases t with
      | zero =>
       have hr:0 < (b3A r (n - m)).length:=by simpa using htl
       have hmn:m ≠ n:=by
        rintro rfl
        rw [Nat.sub_self,c7U] at hr
        simp at hr
       have hmd:m = b7O p:=by omega
       have hik:i = k:=f0V ht hi hk (by rw [he,hkp]; rfl)
       subst hik
       have hpr:∀ q ∈ r,Post.addr q ≠ Post.addr (rdL dP (setAt out i (settled p (U.of m))) i):=fun q hq=>by
        rw [haddr,hkp]
        exact fun e=>hap1 q hq e.symm
       rw [g6 i hpr,c2X,if_pos ⟨rfl,hk⟩,hdn]
       omega
      | succ t =>
       exact g7 t (by simpa using htl) i (by rw [hlen]; exact hi) (by rw [haddr]; exact he)
   ·
    rw [if_neg hpd]
    exact .inl rfl
end Sym

/- Payments: a greater pool pays nobody less. -/
namespace Sym
open Go
theorem f6X {x:List Post} (hx:TableOk x) (n:U):f5P x n = (b3A (ord x) n.val,I.of .i64 0):=if_pos (tabB_t.2 hx)
theorem g0X (x:List Post):(ord x).length ≤ x.length:=by rw [List.length_map]; exact d9W x
end Sym

/- Payments: the oldest debts first. -/
namespace Sym
open Go
end Sym

/- Payments: the payments total the smaller of the pool and the debts. -/
namespace Sym
open Go
end Sym

/- The length of a number in bits. -/
namespace Sym
open Go
def Bits (n k:Nat):Prop:=∀ m,k ≤ m ↔ n < 2 ^ m
theorem Bits.zero:Bits 0 0:=fun m=>⟨fun _=>Nat.pow_pos (by decide),fun _=>Nat.zero_le _⟩
end Sym

/- Pricer: the length of a number, who is found, shares of units. -/
namespace Sym
open Go
theorem Wp.jnI {X R:Type} {T:R→Prop} {J:X→R} {f:(X→R)→R} (h:Wp T (f J)):Wp T (Sym.jn J f):=h
def b7Y (units last upto now:I .u64):Nat:=if now.nat = last.nat then units.nat else units.nat * (upto.nat - last.nat) / (now.nat - last.nat)
theorem f2S {n:Nat} (h:n < 18446744073709551616):(U.of n).1 = I.of .u64 (n:Int):=by
 show I.of .u64 ((n % 18446744073709551616:Nat):Int) = _
 rw [Nat.mod_eq_of_lt h]
theorem d0Q {x y:I .u64}:I.eqb x y = decide (x.nat = y.nat):=by
 have:=a2F x
 have:=a2F y
 by_cases h:x.nat = y.nat
 ·
  rw [decide_eq_true h]; exact iff_eqb.2 (by omega)
 ·
  rw [decide_eq_false h]; exact niff_eqb.2 (by omega)
theorem sub_nat_le' (a b:I .u64) (h:b.nat ≤ a.nat):(I.sub a b).nat = a.nat - b.nat:=by
 have:=a2F a
 have:=a2F b
 have:=e8Q (a:=a) (b:=b) (by omega)
 have:=a2F (I.sub a b)
 omega
theorem d2F {units last upto now:I .u64} (h1:last.nat ≤ upto.nat) (h2:upto.nat ≤ now.nat):b7Y units last upto now ≤ units.nat:=by
 unfold b7Y
 split
 ·
  omega
 ·
  refine Nat.div_le_of_le_mul ?_
  rw [Nat.mul_comm]
  exact Nat.mul_le_mul_right _ (by omega)
end Sym

/- Pricer: what its functions compute. -/
namespace Sym
open Go
abbrev PrT:Type:=a5M
abbrev PrT.price (s:PrT):U:=s.1
abbrev PrT.units (s:PrT):I .u64:=s.2.1
abbrev PrT.last (s:PrT):I .u64:=s.2.2.1
abbrev PrT.reports (s:PrT):I .u64:=s.2.2.2.1
abbrev PrT.surplus (s:PrT):S:=s.2.2.2.2.1
abbrev PrT.posters (s:PrT):List Post:=s.2.2.2.2.2.1
abbrev RepT:Type:=b4O
abbrev f9U:Type:=c9D
def Prm.rpu (p:Prm):U:=p.2.2.2.2.2.2.2.1
noncomputable def f7O (l:List Post) (n:I .u64):Bool:=l.all fun p=>decide ((Post.since p).nat ≤ n.nat)
noncomputable def prV (s:PrT):Bool:=f7O s.posters s.reports && (c5F s.posters && b0C s.surplus)
theorem prV_t {s:PrT}:prV s = true ↔ (∀ p ∈ s.posters,(Post.since p).nat ≤ s.reports.nat)∧TableOk s.posters∧b0C s.surplus = true:=by
 unfold prV f7O
 simp only [Bool.and_eq_true,List.all_eq_true,decide_eq_true_eq,tabB_t]
noncomputable def c2N (p:Post) (c w:U) (since:I .u64):Post :=
 (p.1,(U.of (p.due.val + (c.val + w.val)),(U.of (p.costs.val + c.val),(U.of (p.rewards.val + w.val),(p.paid,((if p.due.val = 0∧0 < p.due.val + (c.val + w.val) then since else p.since),()))))))
def e0X (p:Post) (c w:U):Prop:=p.due.val + (c.val + w.val) < U.top∧p.costs.val + c.val < U.top∧p.rewards.val + w.val < U.top
open Classical in
noncomputable def b7F (l:List Post) (a:I .u64) (c w:U) (since:I .u64):List Post × I .i64 :=
 if e0X (rdL dP l (atN l a)) c w then (setAt l (atN l a) (c2N (rdL dP l (atN l a)) c w since),I.of .i64 0) else ([],I.of .i64 4)
theorem e9K {n:Nat}:I.neb (c5H n).2 (I.of .i64 0) = decide (¬ n < U.top):=by
 by_cases h:n < U.top
 ·
  rw [c6E h,decide_eq_false (by simpa using h)]; rfl
 ·
  rw [d7I (by omega),decide_eq_true h]; rfl
end Sym

/- Pricer: a report. -/
namespace Sym
open Go
abbrev RepT.from' (r:RepT):I .u64:=r.1
abbrev RepT.upto (r:RepT):I .u64:=r.2.1
abbrev RepT.cost (r:RepT):U:=r.2.2.1
abbrev c6B:Nat:=340282366920938463463374607431768211456
noncomputable def c5G (s:PrT) (p:Prm) (r:RepT) (now:I .u64):I .i64 :=
 if prV s = true then
  if a7R p = true then
   if atN s.posters r.from' < s.posters.length then
    if s.last.nat ≤ r.upto.nat∧r.upto.nat ≤ now.nat then
     if r.cost.val < c6B then
      if s.reports.nat = 18446744073709551615 then I.of .i64 4 else I.of .i64 0
     else I.of .i64 2
    else I.of .i64 14
   else I.of .i64 8
  else I.of .i64 15
 else I.of .i64 2
theorem g1P {n k:Nat} (h:Bits n k) (hk:k ≤ 256):I.ltb (I.of .i64 128) (i6 k) = decide (¬ n < c6B):=by
 have e:I.of .i64 128 = i6 128:=rfl
 rw [e,a2M (by omega) (by omega)]
 have:=h 128
 have e2:(2:Nat) ^ 128 = c6B:=by decide
 rw [e2] at this
 by_cases hc:n < c6B
 ·
  rw [decide_eq_false (by omega),decide_eq_false (by simpa using hc)]
 ·
  rw [decide_eq_true (by omega),decide_eq_true hc]
noncomputable abbrev zPr:PrT:=(Z_U,((I.of .u64 0),((I.of .u64 0),((I.of .u64 0),(a2V,([],()))))))
noncomputable abbrev g2N:f9U:=(I.of .u64 0,(Z_U,([],())))
def c4V (s:PrT) (r:RepT) (now:I .u64):Nat:=b7Y s.units s.last r.upto now
noncomputable def c5E (pool:U) (l:List Post) (pay:List Pay):S:=S.of (((pool.val - b2E (pay.map amt):Nat):Int) - (b2E (l.map b7O):Int))
open Classical in
noncomputable def c6F (s:PrT) (p:Prm) (pool:U) (t:f9U):PrT × I .i64 :=
 if b2E (s.posters.map b7O) < U.top then
  if t.1.nat = 0 then (s,I.of .i64 0)
  else if I.neb (c2U s.price (c5E pool s.posters t.2.2.1) s.surplus t.1 p).2 (I.of .i64 0) = true then (zPr,(c2U s.price (c5E pool s.posters t.2.2.1) s.surplus t.1 p).2)
  else (((c2U s.price (c5E pool s.posters t.2.2.1) s.surplus t.1 p).1,(s.units,(s.last,(s.reports,(c5E pool s.posters t.2.2.1,(s.posters,())))))),I.of .i64 0)
 else (zPr,I.of .i64 4)
end Sym

/- Pricer: a report as a whole. -/
namespace Sym
open Go
theorem d4J {l:List Post} {a:I .u64} {c w:U} {since:I .u64} (hT:TableOk l) (hf:atN l a < l.length) (hs:since.nat ≠ 0) :
  ((b7F l a c w since).2 = I.of .i64 4∧(b7F l a c w since).1 = []) ∨
  ((b7F l a c w since).2 = I.of .i64 0∧e0X (rdL dP l (atN l a)) c w∧(b7F l a c w since).1 = setAt l (atN l a) (c2N (rdL dP l (atN l a)) c w since)∧TableOk (b7F l a c w since).1):=by
 unfold b7F
 split
 ·
  rename_i h
  refine .inr ⟨rfl,h,rfl,?_⟩
  have hv:=a2F since
  refine f8H hT hf ?_ rfl
  refine e6C (hT.2 _ hf).1 c w since (by omega) h.1 h.2.1 h.2.2 _ ?_
  by_cases hd:(Post.due (rdL dP l (atN l a))).val = 0∧0 < (Post.due (rdL dP l (atN l a))).val + (c.val + w.val)
  ·
   rw [if_pos hd]; exact .inl ⟨rfl,hd.1,hd.2⟩
  ·
   rw [if_neg hd]; exact .inr ⟨rfl,hd⟩
 ·
  exact .inl ⟨rfl,rfl⟩
noncomputable def b4T (s:PrT) (p:Prm) (r:RepT) (now:I .u64):List Post × I .i64:=b7F s.posters r.from' r.cost (U.of (p.rpu.val * c4V s r now)) (I.add s.reports (I.of .u64 1))
noncomputable def a2G (l:List Post) (pool:U):List Pay:=b3A (ord l) pool.val
noncomputable def c1T (s:PrT) (l:List Post):PrT:=(s.price,(s.units,(s.last,(I.add s.reports (I.of .u64 1),(s.surplus,(l,()))))))
noncomputable def b9P (s:PrT) (p:Prm) (r:RepT) (now:I .u64) (pay:List Pay):f9U:=(I.of .u64 (c4V s r now:Int),(U.of (p.rpu.val * c4V s r now),(pay,())))
noncomputable def g5O (s:PrT) (n:Nat) (r:RepT) (q:PrT):PrT:=(q.1,(I.sub q.2.1 (I.of .u64 (n:Int)),(r.upto,q.2.2.2)))
noncomputable def b3K (s:PrT) (p:Prm) (pool:U) (r:RepT) (now:I .u64):PrT × f9U × I .i64 :=
 if (c5G s p r now).val = 0 then
  if p.rpu.val * c4V s r now < U.top then
   if (b4T s p r now).2.val = 0 then
    if (a3J (b4T s p r now).1 (a2G (b4T s p r now).1 pool)).2.val = 0 then
     if (c6F (c1T s (a3J (b4T s p r now).1 (a2G (b4T s p r now).1 pool)).1) p pool (b9P s p r now (a2G (b4T s p r now).1 pool))).2.val = 0 then
      (g5O s (c4V s r now) r (c6F (c1T s (a3J (b4T s p r now).1 (a2G (b4T s p r now).1 pool)).1) p pool (b9P s p r now (a2G (b4T s p r now).1 pool))).1,b9P s p r now (a2G (b4T s p r now).1 pool),I.of .i64 0)
     else (zPr,g2N,I.of .i64 4)
    else (zPr,g2N,I.of .i64 4)
   else (zPr,g2N,I.of .i64 4)
  else (zPr,g2N,I.of .i64 4)
 else (zPr,g2N,c5G s p r now)
structure Chk (s:PrT) (p:Prm) (r:RepT) (now:I .u64):Prop where
 since:∀ q ∈ s.posters,(Post.since q).nat ≤ s.reports.nat
 tab:TableOk s.posters
 sur:b0C s.surplus = true
 par:a7R p = true
 fnd:atN s.posters r.from' < s.posters.length
 lo:s.last.nat ≤ r.upto.nat
 hi:r.upto.nat ≤ now.nat
 cost:r.cost.val < c6B
 cnt:s.reports.nat < 18446744073709551615
theorem d4P {s:PrT} {p:Prm} {r:RepT} {now:I .u64} (h:(c5G s p r now).val = 0):Chk s p r now:=by
 unfold c5G at h
 split at h
 ·
  rename_i h1
  split at h
  ·
   rename_i h2
   split at h
   ·
    rename_i h3
    split at h
    ·
     rename_i h4
     split at h
     ·
      rename_i h5
      split at h
      ·
       exact absurd h (by decide)
      ·
       rename_i h6
       have ⟨a,b,c⟩:=prV_t.1 h1
       have:=a3V s.reports
       exact ⟨a,b,c,h2,h3,h4.1,h4.2,h5,by omega⟩
     ·
      exact absurd h (by decide)
    ·
     exact absurd h (by decide)
   ·
    exact absurd h (by decide)
  ·
   exact absurd h (by decide)
 ·
  exact absurd h (by decide)
theorem d9S {s:PrT} {p:Prm} {r:RepT} {now:I .u64} (h:Chk s p r now):(I.add s.reports (I.of .u64 1)).nat = s.reports.nat + 1:=by
 have:=h.cnt
 have:=a2F s.reports
 have h1:(I.of .u64 1).val = 1:=rfl
 have:=e0Y (a:=s.reports) (b:=I.of .u64 1) (by omega)
 have:=a2F (I.add s.reports (I.of .u64 1))
 omega
theorem d3V (l:List Post) (pool:U):(a2G l pool).length ≤ l.length:=Nat.le_trans (d9P _ _) (g0X l)
theorem e7G (l:List Post) (pool:U):b2E ((a2G l pool).map amt) = min pool.val (b2E (l.map b7O)):=by
 unfold a2G
 rw [e2Z (ord l) pool.val pool.lt,g0A]
theorem d7X {l:List Post} (hT:TableOk l) (pool:U) :
  (a3J l (a2G l pool)).2 = I.of .i64 4 ∨ ((a3J l (a2G l pool)).2 = I.of .i64 0∧TableOk (a3J l (a2G l pool)).1∧(a3J l (a2G l pool)).1.length = l.length ∧
   (∀ i,Post.addr (rdL dP (a3J l (a2G l pool)).1 i) = Post.addr (rdL dP l i))∧b2E ((a3J l (a2G l pool)).1.map b7O) + b2E ((a2G l pool).map amt) = b2E (l.map b7O)):=by
 rcases d4D (ord l) pool.val l pool.lt hT (fun p hp=>f9V hp) (e9M hT) with h | ⟨h1,h2,h3,h4,h5,_,_⟩
 ·
  exact .inl h
 ·
  exact .inr ⟨h1,h2,h3,h4,h5⟩
theorem b7G:(I.of .i64 4).val ≠ 0:=by decide
end Sym

/- Pricer: posters and units added. -/
namespace Sym
open Go
noncomputable def g2K (a:I .u64):Post:=(a,(Z_U,(Z_U,(Z_U,(Z_U,((I.of .u64 0),()))))))
noncomputable def e3A:List Post→I .u64→List Post
 | [],a=>[g2K a]
 | p :: r,a=>if (Post.addr p).nat < a.nat then p :: e3A r a else g2K a :: p :: r
theorem f0Z {l:List Post} {a:I .u64} {i:Nat} (hi:i < l.length) (h:(Post.addr (rdL dP l i)).nat < a.nat):e3A (l.drop i) a = rdL dP l i :: e3A (l.drop (i + 1)) a:=by
 rw [List.drop_eq_getElem_cons hi,← a4N dP l i hi]
 exact if_pos h
theorem e9S {l:List Post} {a:I .u64} {i:Nat} (hi:i < l.length) (h:¬ (Post.addr (rdL dP l i)).nat < a.nat):e3A (l.drop i) a = g2K a :: l.drop i:=by
 rw [List.drop_eq_getElem_cons hi,← a4N dP l i hi]
 exact if_neg h
theorem e4H:∀ (l:List Post) (a:I .u64),(e3A l a).length = l.length + 1
 | [],a=>rfl
 | p :: r,a=>by
  unfold e3A
  split
  ·
   simp [e4H r a]
  ·
   rfl
open Classical in
noncomputable def d2U (l:List Post) (a:I .u64):List Post × I .i64 :=
 if c5F l = true∧a.nat ≠ 0 then
  if atN l a < l.length then ([],I.of .i64 9)
  else if l.length = 64 then ([],I.of .i64 7) else (e3A l a,I.of .i64 0)
 else ([],I.of .i64 2)
theorem g1B {l:List Post} {a:I .u64} (hl:l.length ≤ 1073741824):I.leb (I.of .i64 0) (atI l a) = decide (atN l a < l.length):=by
 have:=d5N (l:=l) (a:=a) hl
 by_cases h:atN l a < l.length
 ·
  rw [decide_eq_false (by simpa using h)] at this
  rw [decide_eq_true h]
  exact iff_leb.2 (niff_ltb.1 this)
 ·
  rw [decide_eq_true h] at this
  rw [decide_eq_false h]
  exact niff_leb.2 (iff_ltb.1 this)
open Classical in
noncomputable def a8W (s:PrT) (a:I .u64):PrT × I .i64 :=
 if prV s = true then
  if (d2U s.posters a).2.val = 0 then ((s.price,(s.units,(s.last,(s.reports,(s.surplus,((d2U s.posters a).1,())))))),I.of .i64 0)
  else (zPr,(d2U s.posters a).2)
 else (zPr,I.of .i64 2)
noncomputable def a7Q (s:PrT) (n:I .u64):PrT × I .i64 :=
 if prV s = true then
  if s.units.nat + n.nat < 18446744073709551616 then ((s.price,(I.of .u64 ((s.units.nat + n.nat:Nat):Int),s.2.2)),I.of .i64 0)
  else (zPr,I.of .i64 4)
 else (zPr,I.of .i64 2)
end Sym

/- Pricer: what an accepted report has done. -/
namespace Sym
open Go
noncomputable def b1C (s:PrT) (p:Prm) (r:RepT) (now:I .u64):List Post :=
 setAt s.posters (atN s.posters r.from') (c2N (rdL dP s.posters (atN s.posters r.from')) r.cost (U.of (p.rpu.val * c4V s r now)) (I.add s.reports (I.of .u64 1)))
structure RepOk (s:PrT) (p:Prm) (pool:U) (r:RepT) (now:I .u64) (x:PrT) (t:f9U):Prop where
 chk:Chk s p r now
 w:p.rpu.val * c4V s r now < U.top
 fits:e0X (rdL dP s.posters (atN s.posters r.from')) r.cost (U.of (p.rpu.val * c4V s r now))
 tab1:TableOk (b1C s p r now)
 ap:(a3J (b1C s p r now) (a2G (b1C s p r now) pool)).2.val = 0
 tab2:TableOk x.posters
 len:x.posters.length = s.posters.length
 addr:∀ i,Post.addr (rdL dP x.posters i) = Post.addr (rdL dP s.posters i)
 posters:x.posters = (a3J (b1C s p r now) (a2G (b1C s p r now) pool)).1
 due:b2E (x.posters.map b7O) + b2E ((a2G (b1C s p r now) pool).map amt) = b2E ((b1C s p r now).map b7O)
 total:b2E (x.posters.map b7O) < U.top
 units:x.units = I.sub s.units (I.of .u64 (c4V s r now:Int))
 last:x.last = r.upto
 reports:x.reports = I.add s.reports (I.of .u64 1)
 surplus:x.surplus = (if c4V s r now = 0 then s.surplus else c5E pool x.posters (a2G (b1C s p r now) pool))
 price:x.price = (if c4V s r now = 0 then s.price else (c2U s.price (c5E pool x.posters (a2G (b1C s p r now) pool)) s.surplus (I.of .u64 (c4V s r now:Int)) p).1)
 out:t = b9P s p r now (a2G (b1C s p r now) pool)
theorem e2B {s:PrT} {p:Prm} {r:RepT} {now:I .u64} (h:Chk s p r now):c4V s r now ≤ s.units.nat∧(I.of .u64 (c4V s r now:Int)).nat = c4V s r now:=by
 have h1:=d2F (units:=s.units) h.lo h.hi
 have h2:=a3V s.units
 exact ⟨h1,b9F (by unfold c4V; omega)⟩
theorem g5B {s:PrT} {p:Prm} {pool:U} {r:RepT} {now:I .u64} (h:(b3K s p pool r now).2.2.val = 0):RepOk s p pool r now (b3K s p pool r now).1 (b3K s p pool r now).2.1:=by
 unfold b3K at h ⊢
 by_cases h0:(c5G s p r now).val = 0
 case neg=>rw [if_neg h0] at h; exact absurd h h0
 rw [if_pos h0] at h ⊢
 have hC:=d4P h0
 by_cases hw:p.rpu.val * c4V s r now < U.top
 case neg=>rw [if_neg hw] at h; exact absurd h b7G
 rw [if_pos hw] at h ⊢
 have hcnt:=d9S hC
 have ⟨hn1,hn2⟩:=e2B hC
 have hA:=d4J (c:=r.cost) (w:=U.of (p.rpu.val * c4V s r now)) (since:=I.add s.reports (I.of .u64 1)) hC.tab hC.fnd (by rw [hcnt]; omega)
 rw [show b7F s.posters r.from' r.cost (U.of (p.rpu.val * c4V s r now)) (I.add s.reports (I.of .u64 1)) = b4T s p r now from rfl] at hA
 rcases hA with ⟨hA,_⟩ | ⟨hA,hfit,hl1,hT⟩
 ·
  rw [if_neg (by rw [hA]; exact b7G)] at h; exact absurd h b7G
 rw [if_pos (by rw [hA]; rfl)] at h ⊢
 have hl1:(b4T s p r now).1 = b1C s p r now:=hl1
 rw [hl1] at h ⊢
 rw [hl1] at hT
 rcases d7X hT pool with hB | ⟨hB,hT2,hlen,hadr,hdue⟩
 ·
  rw [if_neg (by rw [hB]; exact b7G)] at h; exact absurd h b7G
 have hB0:(a3J (b1C s p r now) (a2G (b1C s p r now) pool)).2.val = 0:=by rw [hB]; rfl
 rw [if_pos hB0] at h ⊢
 have hl0:(b1C s p r now).length = s.posters.length:=by unfold b1C; rw [a7X,List.length_set]
 have ha0:∀ i,Post.addr (rdL dP (b1C s p r now) i) = Post.addr (rdL dP s.posters i):=by
  intro i
  unfold b1C
  rw [c2X]
  split
  ·
   rename_i e; rw [e.1]; rfl
  ·
   rfl
 by_cases hD:(c6F (c1T s (a3J (b1C s p r now) (a2G (b1C s p r now) pool)).1) p pool (b9P s p r now (a2G (b1C s p r now) pool))).2.val = 0
 case neg=>rw [if_neg hD] at h; exact absurd h b7G
 rw [if_pos hD] at h ⊢
 have key:b2E ((a3J (b1C s p r now) (a2G (b1C s p r now) pool)).1.map b7O) < U.top ∧
   (c6F (c1T s (a3J (b1C s p r now) (a2G (b1C s p r now) pool)).1) p pool (b9P s p r now (a2G (b1C s p r now) pool))).1 =
    ((if c4V s r now = 0 then s.price else (c2U s.price (c5E pool (a3J (b1C s p r now) (a2G (b1C s p r now) pool)).1 (a2G (b1C s p r now) pool)) s.surplus (I.of .u64 (c4V s r now:Int)) p).1),
     (s.units,(s.last,(I.add s.reports (I.of .u64 1),((if c4V s r now = 0 then s.surplus else c5E pool (a3J (b1C s p r now) (a2G (b1C s p r now) pool)).1 (a2G (b1C s p r now) pool)),((a3J (b1C s p r now) (a2G (b1C s p r now) pool)).1,())))))):=by
  unfold c6F at hD ⊢
  have e1:(c1T s (a3J (b1C s p r now) (a2G (b1C s p r now) pool)).1).posters = (a3J (b1C s p r now) (a2G (b1C s p r now) pool)).1:=rfl
  have e2:(b9P s p r now (a2G (b1C s p r now) pool)).1.nat = c4V s r now:=hn2
  rw [e1] at hD ⊢
  split at hD
  ·
   rename_i hs
   refine ⟨hs,?_⟩
   rw [if_pos hs]
   rw [e2] at hD ⊢
   split at hD
   ·
    rename_i hz
    rw [if_pos hz,if_pos hz,if_pos hz]
    rfl
   ·
    rename_i hz
    rw [if_neg hz,if_neg hz,if_neg hz]
    split at hD
    ·
     rename_i hN
     exact absurd hD (iff_neb.1 hN)
    ·
     rename_i hN
     rw [if_neg hN]
     rfl
  ·
   exact absurd hD b7G
 rw [key.2]
 exact ⟨hC,hw,hfit,hT,hB0,hT2,hlen.trans hl0,fun i=>(hadr i).trans (ha0 i),rfl,hdue,key.1,rfl,rfl,rfl,rfl,rfl,rfl⟩
end Sym

/- Pricer: the reference's parts. -/
namespace Sym
open Go
theorem f4B {n i:Nat}:n % 2 ^ (i + 1) = n % 2 ^ i + 2 ^ i * (n / 2 ^ i % 2):=by
 rw [Nat.pow_succ,Nat.mod_mul]
theorem Bits.top {m i:Nat} (h1:2 ^ i ≤ m) (h2:m < 2 ^ (i + 1)):Bits m (i + 1):=by
 intro k
 constructor
 ·
  intro h; exact Nat.lt_of_lt_of_le h2 (Nat.pow_le_pow_right (by decide) h)
 ·
  intro h
  refine Classical.byContradiction fun hk=>?_
  have:2 ^ k ≤ 2 ^ i:=Nat.pow_le_pow_right (by decide) (by omega)
  omega
theorem e6G (a:U):∃ y,b1W K0 ((a,()),()) = some y∧∃ k,y = ((i6 k,()),())∧Bits a.val k∧k ≤ 256:=by
 refine Wp.out (T:=fun o=>∃ y,o = some y∧∃ k,y = ((i6 k,()),())∧Bits a.val k∧k ≤ 256) ?_
 unfold b1W
 have e256:I.of .i64 256 = i6 256:=rfl
 have e64:I.of .i64 64 = i6 64:=rfl
 simp only [c0H,b4M,e256,e64]
 refine Wp.iter (fun s=>∃ i n,s = ((i6 n,(i6 i,())),(a,()))∧i ≤ 256∧n ≤ i∧Bits (a.val % 2 ^ i) n) (fun s=>256 - s.1.2.1.val.toNat) ?_ ⟨0,0,rfl,by omega,by omega,by rw [Nat.pow_zero,Nat.mod_one]; exact Bits.zero⟩ (by rw [a6G]; show 256 - _ < _; omega)
 rintro s ⟨i,n,rfl,hi,hn,hB⟩
 simp only [a2M (show i < 9223372036854775808 by omega) (show 256 < 9223372036854775808 by omega),a3H (show i + 1 < 9223372036854775808 by omega)]
 refine Wp.brn (fun hc=>?_) (fun hc=>?_)
 ·
  have hc:=of_decide_eq_true hc
  have hm:256 - (i6 (i + 1)).val.toNat < 256 - (i6 i).val.toNat:=by rw [a0V (by omega),a0V (by omega)]; omega
  have hq:I.quo (i6 i) (i6 64) = i6 (i / 64):=by
   apply I.ext'
   rw [b7H (by rw [a0V (by omega)]; omega) (by rw [a0V (by omega)]; omega),a0V (by omega),a0V (by omega),a0V (by omega)]
   omega
  have hr:I.rem (i6 i) (i6 64) = i6 (i % 64):=by
   apply I.ext'
   rw [b6F (by rw [a0V (by omega)]; omega) (by rw [a0V (by omega)]; omega),a0V (by omega),a0V (by omega),a0V (by omega)]
   omega
  have hcv:(I.conv (k:=.i64) .u64 (i6 (i % 64))).val = ((i % 64:Nat):Int):=by
   show (I.of .u64 (i6 (i % 64)).val).val = _
   rw [a0V (by omega),b9A (by omega)]
  have hcn:(I.conv (k:=.i64) .u64 (i6 (i % 64))).nat = i % 64:=by
   have:=a2F (I.conv (k:=.i64) .u64 (i6 (i % 64)))
   omega
  simp only [hq,hr,a3C (show i / 64 < 9223372036854775808 by omega)]
  refine Wp.brnT (a3D (by omega) (by omega)) (Wp.brnT (iff_nn.2 (by rw [hcv]; omega)) ?_)
  have hsh:(I.shr (Arr.sel (I.of .u64 0) 4 a (i / 64)) (I.conv (k:=.i64) .u64 (i6 (i % 64)))).nat = limb' a (i / 64) / 2 ^ (i % 64):=by
   have h:=f8Z (Arr.sel (I.of .u64 0) 4 a (i / 64)) (I.conv (k:=.i64) .u64 (i6 (i % 64))) (by rw [hcn]; omega)
   rw [hcn] at h
   exact h
  have hb:(I.and (I.shr (Arr.sel (I.of .u64 0) 4 a (i / 64)) (I.conv (k:=.i64) .u64 (i6 (i % 64)))) (I.of .u64 1)).nat = a.val / 2 ^ i % 2:=by
   rw [g1N _ 1 _ (by decide) (by rfl),hsh,g4A a i (by omega)]
  have hs:=f4B (n:=a.val) (i:=i)
  have hlt:a.val % 2 ^ i < 2 ^ i:=Nat.mod_lt _ (Nat.pow_pos (by decide))
  rw [d0Q,hb,show (I.of .u64 1).nat = 1 from rfl]
  refine Wp.brn (fun h=>?_) (fun h=>?_)
  ·
   have h:=of_decide_eq_true h
   rw [h,Nat.mul_one] at hs
   refine Wp.again ⟨i + 1,i + 1,rfl,by omega,by omega,?_⟩ hm
   exact Bits.top (by rw [hs]; omega) (by rw [hs,Nat.pow_succ]; omega)
  ·
   have h:=of_decide_eq_false h
   have h0:a.val / 2 ^ i % 2 = 0:=by omega
   rw [h0,Nat.mul_zero,Nat.add_zero] at hs
   exact Wp.again ⟨i + 1,n,rfl,by omega,by omega,by rw [hs]; exact hB⟩ hm
 ·
  have hc:=of_decide_eq_false hc
  have hi':i = 256:=by omega
  subst hi'
  have ha:=a.lt
  rw [f9J] at ha
  rw [Nat.mod_eq_of_lt ha] at hB
  exact Wp.done ⟨_,rfl,n,rfl,hB,hn⟩
theorem e6D (a b:U):b1R K0 ((a,(b,())),()) = some (((c5H (a.val * b.val)).1,((c5H (a.val * b.val)).2,())),()):=by
 refine Wp.out (T:=fun o=>o = _) ?_
 unfold b1R
 refine Wp.call (b2N a) ?_
 rintro _ ⟨x,rfl,hx⟩
 refine Wp.call (b2N b) ?_
 rintro _ ⟨y,rfl,hy⟩
 obtain ⟨z,hz,hz2⟩:=b2O hx hy (c0V hx) (c0V hy)
 refine Wp.optF hz (Wp.optF (Checked_ok' hz2 ?_) rfl)
 refine a9L hz2 64 ?_ (by decide)
 have h1:=a.lt
 have h2:=b.lt
 have h3:a.val * b.val < U.top * U.top:=Nat.mul_lt_mul_of_lt_of_le h1 (Nat.le_of_lt h2) (by decide)
 exact Nat.lt_trans h3 (by decide)
theorem f0K (units last upto now:I .u64) (h1:last.nat ≤ upto.nat) (h2:upto.nat ≤ now.nat) :
  a8Z K0 ((units,(last,(upto,(now,())))),()) = some ((I.of .u64 (b7Y units last upto now:Int),(I.of .i64 0,())),()):=by
 have hle:=d2F (units:=units) h1 h2
 have hu:=a3V units
 refine Wp.out (T:=fun o=>o = _) ?_
 unfold a8Z
 refine Wp.jnI ?_
 simp only [c2P]
 refine Wp.brnF (decide_eq_false (by omega)) (Wp.brnF (decide_eq_false (by omega)) ?_)
 simp only [d0Q]
 refine Wp.brn (fun h=>?_) (fun h=>?_)
 ·
  have h:=of_decide_eq_true h
  have:I.of .u64 (b7Y units last upto now:Int) = units:=by
   unfold b7Y
   rw [if_pos h,a2F]
   exact I.ext' units.ok
  rw [this]
  rfl
 ·
  have h:=of_decide_eq_false h
  have d1:=sub_nat_le' upto last h1
  have d2:=sub_nat_le' now last (by omega)
  obtain ⟨x,gx,hx⟩:=a1P units
  obtain ⟨y,gy,hy⟩:=a1P (I.sub upto last)
  obtain ⟨z,gz,hz⟩:=a1P (I.sub now last)
  obtain ⟨m,gm,hm⟩:=b2O hx hy (Nat.le_trans (e2J hx) (by decide)) (Nat.le_trans (e2J hy) (by decide))
  have hml:m.length ≤ 1000000:=by
   refine a9L hm 64 ?_ (by decide)
   have:=a3V (I.sub upto last)
   exact Nat.lt_trans (Nat.mul_lt_mul_of_lt_of_le hu (Nat.le_of_lt this) (by decide)) (by decide)
  obtain ⟨q,r,gq,hq,_⟩:=c4I hm hz (by omega) hml (Nat.le_trans (e2J hz) (by decide))
  have e:b7Y units last upto now = units.nat * (upto.nat - last.nat) / (now.nat - last.nat):=if_neg h
  rw [d1,d2,← e] at hq
  refine Wp.optF gx (Wp.optF gy (Wp.optF gm (Wp.optF gz (Wp.optF gq (Wp.optF (a3B hq (Nat.lt_trans (Nat.lt_of_le_of_lt hle hu) (by decide))) ?_)))))
  show some (((U.of (b7Y units last upto now)).1,(I.of .i64 0,())),()) = _
  rw [f2S (by omega)]
theorem d8V {l:List Post} (hl:l.length ≤ 1073741824) (hT:TableOk l):a9D K0 ((l,()),()) = some (((c5H (b2E (l.map b7O))).1,((c5H (b2E (l.map b7O))).2,())),()):=by
 refine Wp.out (T:=fun o=>o = _) ?_
 unfold a9D
 simp only [a6F,a9I,c0H,b4M]
 refine Wp.optF (c1P hl) (Wp.brnF (e9V hT) ?_)
 have h64:=hT.1
 have hb:∀ i,b2E ((l.take i).map b7O) ≤ 64 * U.top:=fun i=>by
  have h1:=c7O b7O U.top (fun p=>U.lt _) (l.take i)
  have h2:(l.take i).length * U.top ≤ 64 * U.top:=Nat.mul_le_mul_right _ (by rw [List.length_take]; omega)
  omega
 have hbig:64 * U.top < 65536 ^ 64:=by decide
 refine Wp.iter (fun s=>∃ i b,s = ((l,(b,(i6 i,()))),(Z_U,()))∧i ≤ l.length∧IsB b (b2E ((l.take i).map b7O))) (fun s=>l.length - s.1.2.2.1.val.toNat) ?_ ⟨0,[],rfl,by omega,c0R⟩ (by rw [a6G]; show l.length - _ < _; omega)
 rintro s ⟨i,b,rfl,hi,hB⟩
 simp only [a2M (show i < 9223372036854775808 by omega) (show l.length < 9223372036854775808 by omega),a3C (show i < 9223372036854775808 by omega),a3H (show i + 1 < 9223372036854775808 by omega)]
 have hbl:b.length ≤ 1000000:=a9L hB 64 (by have:=hb i; omega) (by decide)
 refine Wp.brn (fun hc=>?_) (fun hc=>?_)
 ·
  have hc:=of_decide_eq_true hc
  refine Wp.brnT (a3D (by omega) (by omega)) ?_
  refine Wp.call (b2N (Post.due (rdL dP l i))) ?_
  rintro _ ⟨x,rfl,hx⟩
  obtain ⟨z,gz,hz⟩:=a9P hB hx hbl (c0V hx)
  refine Wp.optF gz ?_
  exact Wp.again ⟨i + 1,z,rfl,by omega,by rw [e0A dP b7O hc]; exact hz⟩ (by show l.length - (i6 (i + 1)).val.toNat < l.length - (i6 i).val.toNat; rw [a0V (by omega),a0V (by omega)]; omega)
 ·
  have hc:=of_decide_eq_false hc
  rw [List.take_of_length_le (by omega)] at hB
  exact Wp.done (Wp.optF (Checked_ok' hB hbl) rfl)
end Sym

/- Pricer: the reference computes the same. -/
namespace Sym
open Go
theorem e6B (l:List Post) (a:I .u64) (c w:U) (since:I .u64) (h:TableOk l) (hf:atN l a < l.length) (hs:since.nat ≠ 0) :
  b0J K0 ((l,(a,(c,(w,(since,()))))),()) = some (((b7F l a c w since).1,((b7F l a c w since).2,())),()):=by
 refine Wp.out (T:=fun o=>o = _) ?_
 have hl:=h.1
 unfold b0J b7F
 refine Wp.jnI (Wp.optF (c1P (l:=l) (by omega)) (Wp.brnF (e9V h) (Wp.brnF (by rw [d0Q]; exact decide_eq_false hs) ?_)))
 refine Wp.optF (c9L (l:=l) a (by omega)) ?_
 have e:atI l a = i6 (atN l a):=if_pos hf
 rw [e]
 have hE:=(h.2 _ hf).1
 generalize atN l a = k at hf hE ⊢
 refine Wp.brnF (by rw [c0H,a2M (by omega) (by omega)]; exact decide_eq_false (by omega)) ?_
 have en:a2D ([]:List Post) l = l:=rfl
 simp only [a3C (show k < 9223372036854775808 by omega),pw,d1P,c2X,en]
 simp only [true_and,hf,if_true]
 have bi:inB (i6 k) l.length = true:=a3D hf (by omega)
 generalize rdL dP l k = p at *
 refine Wp.brnT (a8R (by show l.length ≤ _; omega)) (Wp.brnT bi ?_)
 refine Wp.call (b2N (Post.due p)) ?_
 rintro _ ⟨d1,rfl,b1⟩
 refine Wp.call (b2N c) ?_
 rintro _ ⟨d2,rfl,b2⟩
 refine Wp.call (b2N w) ?_
 rintro _ ⟨d3,rfl,b3⟩
 have t1:=U.lt (Post.due p)
 have t2:=c.lt
 have t3:=w.lt
 have t4:=U.lt (Post.costs p)
 have t5:=U.lt (Post.rewards p)
 have hp:U.top + U.top + U.top ≤ 65536 ^ 17:=by decide
 obtain ⟨d4,g4,b4⟩:=a9P b2 b3 (c0V b2) (c0V b3)
 refine Wp.optF g4 ?_
 obtain ⟨d5,g5,b5⟩:=a9P b1 b4 (c0V b1) (a9L b4 17 (by omega) (by decide))
 refine Wp.optF g5 ?_
 refine Wp.call (b2N (Post.costs p)) ?_
 rintro _ ⟨d6,rfl,b6⟩
 refine Wp.call (b2N c) ?_
 rintro _ ⟨d7,rfl,b7⟩
 obtain ⟨d8,g8,b8⟩:=a9P b6 b7 (c0V b6) (c0V b7)
 refine Wp.optF g8 ?_
 refine Wp.call (b2N (Post.rewards p)) ?_
 rintro _ ⟨d9,rfl,b9⟩
 refine Wp.call (b2N w) ?_
 rintro _ ⟨d10,rfl,b10⟩
 obtain ⟨d11,g11,b11⟩:=a9P b9 b10 (c0V b9) (c0V b10)
 refine Wp.optF g11 ?_
 have l5:=a9L b5 17 (by omega) (by decide)
 have l8:=a9L b8 17 (by omega) (by decide)
 have l11:=a9L b11 17 (by omega) (by decide)
 refine Wp.optF (d4I b5 l5) ?_
 refine Wp.brn (fun f1=>?_) (fun f1=>?_)
 ·
  have f1:=of_decide_eq_false (b3F f1)
  rw [if_neg (fun hh=>f1 hh.1)]; rfl
 have f1:=of_decide_eq_true (b3D f1)
 refine Wp.optF (d4I b8 l8) ?_
 refine Wp.brn (fun f2=>?_) (fun f2=>?_)
 ·
  have f2:=of_decide_eq_false (b3F f2)
  rw [if_neg (fun hh=>f2 hh.2.1)]; rfl
 have f2:=of_decide_eq_true (b3D f2)
 refine Wp.optF (d4I b11 l11) ?_
 refine Wp.brn (fun f3=>?_) (fun f3=>?_)
 ·
  have f3:=of_decide_eq_false (b3F f3)
  rw [if_neg (fun hh=>f3 hh.2.2)]; rfl
 have f3:=of_decide_eq_true (b3D f3)
 rw [if_pos ⟨f1,f2,f3⟩]
 refine Wp.optF (c4X (Post.due p)) ?_
 have hpos:=f9L b5 l5
 refine Wp.brn (fun z=>?_) (fun z=>?_)
 ·
  have z:=of_decide_eq_true z
  refine Wp.brn (fun y=>?_) (fun y=>?_)
  ·
   have y:=of_decide_eq_true (hpos.symm.trans y)
   refine Wp.optF (a3B b5 f1) (Wp.optF (a3B b8 f2) (Wp.optF (a3B b11 f3) ?_))
   have e:c2N p c w since = (p.1,(U.of (p.due.val + (c.val + w.val)),(U.of (p.costs.val + c.val),(U.of (p.rewards.val + w.val),(p.paid,(since,())))))):=by unfold c2N; rw [if_pos ⟨z,y⟩]
   rw [e]; rfl
  ·
   have y:=of_decide_eq_false (hpos.symm.trans y)
   refine Wp.optF (a3B b5 f1) (Wp.optF (a3B b8 f2) (Wp.optF (a3B b11 f3) ?_))
   have e:c2N p c w since = (p.1,(U.of (p.due.val + (c.val + w.val)),(U.of (p.costs.val + c.val),(U.of (p.rewards.val + w.val),(p.paid,(p.since,())))))):=by unfold c2N; rw [if_neg (fun hh=>y hh.2)]
   rw [e]; rfl
 ·
  have z:=of_decide_eq_false z
  refine Wp.optF (a3B b5 f1) (Wp.optF (a3B b8 f2) (Wp.optF (a3B b11 f3) ?_))
  have e:c2N p c w since = (p.1,(U.of (p.due.val + (c.val + w.val)),(U.of (p.costs.val + c.val),(U.of (p.rewards.val + w.val),(p.paid,(p.since,())))))):=by unfold c2N; rw [if_neg (fun hh=>z hh.1)]
  rw [e]; rfl
theorem f6G (l:List Post) (a:I .u64) (hl:l.length ≤ 1073741824):b4I K0 ((l,(a,())),()) = some (((d2U l a).1,((d2U l a).2,())),()):=by
 refine Wp.out (T:=fun o=>o = _) ?_
 unfold b4I d2U
 refine Wp.jnI (Wp.optF (c1P hl) ?_)
 have e0:(I.of .u64 0).nat = 0:=rfl
 refine Wp.brn (fun h=>?_) (fun h=>?_)
 ·
  have h:c5F l = false:=b3F h
  simp only [if_neg (show ¬ (c5F l = true∧a.nat ≠ 0) by rw [h]; simp)]; rfl
 have hT:c5F l = true:=b3D h
 rw [d0Q,e0]
 refine Wp.brn (fun h=>?_) (fun h=>?_)
 ·
  have h:a.nat = 0:=of_decide_eq_true h
  simp only [if_neg (show ¬ (c5F l = true∧a.nat ≠ 0) from fun hh=>hh.2 h)]; rfl
 have ha:a.nat ≠ 0:=of_decide_eq_false h
 simp only [if_pos (show c5F l = true∧a.nat ≠ 0 from ⟨hT,ha⟩)]
 refine Wp.optF (c9L (l:=l) a hl) ?_
 rw [show (((atI l a,()),()):((I .i64) × Unit) × Unit).1.1 = atI l a from rfl,g1B hl]
 refine Wp.brn (fun h=>?_) (fun h=>?_)
 ·
  have h:=of_decide_eq_true h
  simp only [if_pos h]; rfl
 have hf:=of_decide_eq_false h
 simp only [if_neg hf]
 have hne:=f4P hf
 have hlim:l.length ≤ 64:=(tabB_t.1 hT).1
 have e64:I.of .i64 64 = i6 64:=rfl
 simp only [a6F,a9I,c0H,b4M,e64,d9T (show 64 < 9223372036854775808 by omega) (show l.length < 9223372036854775808 by omega)]
 refine Wp.brn (fun h=>?_) (fun h=>?_)
 ·
  have h:=of_decide_eq_true h
  simp only [if_pos (show l.length = 64 by omega)]; rfl
 have h64:=of_decide_eq_false h
 simp only [if_neg (show ¬ l.length = 64 by omega)]
 have hva:=a2F a
 refine Wp.iter (fun s=>∃ i put out,s = ((l,(a,(put,(i6 i,())))),(out,()))∧i ≤ l.length∧out.length ≤ i + (if put = true then 1 else 0) ∧
   ((put = false∧out ++ e3A (l.drop i) a = e3A l a) ∨ (put = true∧out ++ l.drop i = e3A l a)))
  (fun s=>l.length - s.1.2.2.2.1.val.toNat) ?_ ⟨0,false,[],rfl,by omega,by simp,.inl ⟨rfl,rfl⟩⟩ (by rw [a6G]; show l.length - _ < _; omega)
 rintro s ⟨i,put,out,rfl,hi,hol0,hcase⟩
 have hol:out.length ≤ i + 1:=by revert hol0; split <;> omega
 simp only [a2M (show i < 9223372036854775808 by omega) (show l.length < 9223372036854775808 by omega),a3C (show i < 9223372036854775808 by omega)]
 refine Wp.brn (fun hc=>?_) (fun hc=>?_)
 ·
  have hc:=of_decide_eq_true hc
  have hm:l.length - (i6 (i + 1)).val.toNat < l.length - (i6 i).val.toNat:=by rw [a0V (by omega),a0V (by omega)]; omega
  have bi:inB (i6 i) l.length = true:=a3D (by omega) (by omega)
  have hdr:l.drop i = rdL dP l i :: l.drop (i + 1):=by rw [List.drop_eq_getElem_cons hc,a4N dP l i hc]
  have hvi:=a2F (Post.addr (rdL dP l i))
  have hnei:=hne i hc
  refine Wp.jnI ?_
  have place:put = false→a.nat < (Post.addr (rdL dP l i)).nat→out ++ g2K a :: rdL dP l i :: l.drop (i + 1) = e3A l a:=by
   intro hp hlt
   rcases hcase with ⟨_,h⟩ | ⟨h,_⟩
   ·
    rw [e9S hc (by omega),hdr] at h; exact h
   ·
    rw [hp] at h; cases h
  have keep:put = false→¬ a.nat < (Post.addr (rdL dP l i)).nat→(out ++ [rdL dP l i]) ++ e3A (l.drop (i + 1)) a = e3A l a:=by
   intro hp hlt
   rcases hcase with ⟨_,h⟩ | ⟨h,_⟩
   ·
    rw [f0Z hc (by omega)] at h; rw [← h]; simp
   ·
    rw [hp] at h; cases h
  have keep2:put = true→(out ++ [rdL dP l i]) ++ l.drop (i + 1) = e3A l a:=by
   intro hp
   rcases hcase with ⟨h,_⟩ | ⟨_,h⟩
   ·
    rw [hp] at h; cases h
   ·
    rw [hdr] at h; rw [← h]; simp
  have hfit:a1I (a0G (a2D out [rdL dP l i])) = true:=a8R (by show (out ++ [_]).length ≤ _; simp; omega)
  refine Wp.brn (fun hp=>?_) (fun hp=>?_)
  ·
   have hp:put = false:=b3F hp
   refine Wp.brnT bi ?_
   rw [c2P]
   simp only [a3C (show i < 9223372036854775808 by omega),a3H (show i + 1 < 9223372036854775808 by omega)]
   refine Wp.brn (fun hlt=>?_) (fun hlt=>?_)
   ·
    have hlt:a.nat < (Post.addr (rdL dP l i)).nat:=of_decide_eq_true hlt
    refine Wp.brnT (a8R (by show (out ++ [_]).length ≤ _; simp; omega)) (Wp.brnT bi (Wp.brnT (a8R (by show (out ++ [_] ++ [_]).length ≤ _; simp; omega)) ?_))
    refine Wp.again ⟨i + 1,true,_,rfl,by omega,?_,.inr ⟨rfl,?_⟩⟩ hm
    ·
     rw [hp] at hol0
     simp [a2D] at hol0 ⊢
     omega
    ·
     rw [← place hp hlt]; simp [a2D,g2K]
   ·
    have hlt:¬ a.nat < (Post.addr (rdL dP l i)).nat:=of_decide_eq_false hlt
    exact Wp.brnT bi (Wp.brnT hfit (Wp.again ⟨i + 1,put,_,rfl,by omega,by rw [hp] at hol0 ⊢; simp [a2D] at hol0 ⊢; omega,.inl ⟨hp,keep hp hlt⟩⟩ hm))
  ·
   have hp:put = true:=b3D hp
   simp only [a3C (show i < 9223372036854775808 by omega),a3H (show i + 1 < 9223372036854775808 by omega)]
   exact Wp.brnF rfl (Wp.brnT bi (Wp.brnT hfit (Wp.again ⟨i + 1,put,_,rfl,by omega,by rw [hp] at hol0 ⊢; simp [a2D] at hol0 ⊢; omega,.inr ⟨hp,keep2 hp⟩⟩ hm)))
 ·
  have hc:=of_decide_eq_false hc
  have hi':i = l.length:=by omega
  subst hi'
  refine Wp.done ?_
  rcases hcase with ⟨rfl,h⟩ | ⟨rfl,h⟩
  ·
   rw [List.drop_length] at h
   refine Wp.brnT rfl (Wp.brnT (a8R (by show (out ++ [_]).length ≤ _; simp; omega)) ?_)
   show some ((out ++ [g2K a],(I.of .i64 0,())),()) = _
   rw [← h]; rfl
  ·
   rw [List.drop_length,List.append_nil] at h
   refine Wp.brnF rfl ?_
   rw [h]; rfl
end Sym

/- Pricer: the reference's report. -/
namespace Sym
open Go
theorem c5Z (s:PrT) (hl:s.posters.length ≤ 1073741824):a7F K0 ((s,()),()) = some ((prV s,()),()):=by
 refine Wp.out (T:=fun o=>o = _) ?_
 unfold a7F
 refine Wp.jnI (Wp.optF (c1P (l:=s.posters) hl) ?_)
 refine Wp.brn (fun h=>?_) (fun h=>?_)
 ·
  have h:c5F s.posters = false:=b3F h
  unfold prV; rw [h,Bool.false_and,Bool.and_false]; rfl
 have hT:c5F s.posters = true:=b3D h
 refine Wp.optF (b8J s.surplus) ?_
 refine Wp.brn (fun h=>?_) (fun h=>?_)
 ·
  have h:b0C s.surplus = false:=b3F h
  unfold prV; rw [h,Bool.and_false,Bool.and_false]; rfl
 have hS:b0C s.surplus = true:=b3D h
 simp only [a6F,a9I,c0H,b4M]
 obtain ⟨l,hl'⟩:∃ l,l = s.posters:=⟨_,rfl⟩
 rw [← hl'] at hl
 refine Wp.iter (fun t=>∃ i,t = ((i6 i,()),(s,()))∧i ≤ l.length∧∀ k,k < i→(Post.since (rdL dP l k)).nat ≤ s.reports.nat) (fun t=>l.length - t.1.1.val.toNat) ?_ ⟨0,rfl,by omega,by intro k hk; omega⟩ (by rw [a6G]; show l.length - _ < _; omega)
 rintro t ⟨i,rfl,hi,hinv⟩
 have e:s.2.2.2.2.2.1 = l:=hl'.symm
 simp only [e,a2M (show i < 9223372036854775808 by omega) (show l.length < 9223372036854775808 by omega),a3C (show i < 9223372036854775808 by omega),a3H (show i + 1 < 9223372036854775808 by omega)]
 refine Wp.brn (fun hc=>?_) (fun hc=>?_)
 ·
  have hc:=of_decide_eq_true hc
  refine Wp.brnT (a3D (by omega) (by omega)) ?_
  simp only [c2P]
  refine Wp.brn (fun h=>?_) (fun h=>?_)
  ·
   have h:s.reports.nat < (Post.since (rdL dP l i)).nat:=of_decide_eq_true h
   refine Wp.done ?_
   have:prV s = false:=by
    cases hv:prV s with
    | false=>rfl
    | true =>
     have:=(prV_t.1 hv).1 (rdL dP l i) (by rw [← hl']; exact c3T dP _ i hc)
     omega
   rw [this]
   rfl
  ·
   have h:¬ s.reports.nat < (Post.since (rdL dP l i)).nat:=of_decide_eq_false h
   refine Wp.again ⟨i + 1,rfl,by omega,fun k hk=>?_⟩ (by show l.length - (i6 (i + 1)).val.toNat < l.length - (i6 i).val.toNat; rw [a0V (by omega),a0V (by omega)]; omega)
   by_cases hki:k = i
   ·
    subst hki; omega
   ·
    exact hinv k (by omega)
 ·
  have hc:=of_decide_eq_false hc
  refine Wp.done ?_
  have:prV s = true:=by
   refine prV_t.2 ⟨fun p hp=>?_,tabB_t.1 hT,hS⟩
   rw [← hl'] at hp
   obtain ⟨k,hk,rfl⟩:=c4F dP hp
   exact hinv k (by omega)
  rw [this]
  rfl
theorem d5L (s:PrT) (a:I .u64) (hl:s.posters.length ≤ 1073741824):a8L K0 ((s,(a,())),()) = some (((a8W s a).1,((a8W s a).2,())),()):=by
 refine Wp.out (T:=fun o=>o = _) ?_
 unfold a8L a8W
 refine Wp.optF (c5Z s hl) ?_
 refine Wp.brn (fun h=>?_) (fun h=>?_)
 ·
  have h:prV s = false:=b3F h
  rw [if_neg (by rw [h]; simp)]; rfl
 have h:prV s = true:=b3D h
 rw [if_pos h]
 refine Wp.optF (f6G s.posters a hl) ?_
 refine Wp.brn (fun h=>?_) (fun h=>?_)
 ·
  have h:¬ (d2U s.posters a).2.val = 0:=iff_neb.1 h
  rw [if_neg h]; rfl
 ·
  have h:(d2U s.posters a).2.val = 0:=niff_neb.1 h
  rw [if_pos h]; rfl
theorem c7W (a b:I .u64):I.add a b = I.of .u64 ((a.nat + b.nat:Nat):Int):=by
 unfold I.add
 rw [← a2F a,← a2F b]
 rfl
theorem d9B (s:PrT) (n:I .u64) (hl:s.posters.length ≤ 1073741824):a9J K0 ((s,(n,())),()) = some (((a7Q s n).1,((a7Q s n).2,())),()):=by
 refine Wp.out (T:=fun o=>o = _) ?_
 unfold a9J a7Q
 refine Wp.optF (c5Z s hl) ?_
 refine Wp.brn (fun h=>?_) (fun h=>?_)
 ·
  have h:prV s = false:=b3F h
  rw [if_neg (by rw [h]; simp)]; rfl
 have h:prV s = true:=b3D h
 rw [if_pos h]
 have hu:=a3V s.units
 have hn:=a3V n
 have hw:(I.add s.units n).nat = (s.units.nat + n.nat) % 18446744073709551616:=by
  rw [c7W]
  have h1:(I.of .u64 ((s.units.nat + n.nat:Nat):Int)).val = ((s.units.nat + n.nat:Nat):Int) % 18446744073709551616:=rfl
  have:=a2F (I.of .u64 ((s.units.nat + n.nat:Nat):Int))
  omega
 refine Wp.brn (fun h=>?_) (fun h=>?_)
 ·
  rw [c2P] at h
  have h:(I.add s.units n).nat < n.nat:=of_decide_eq_true h
  rw [if_neg (by omega)]; rfl
 ·
  rw [c2P] at h
  have h:¬ (I.add s.units n).nat < n.nat:=of_decide_eq_false h
  rw [if_pos (by omega)]
  refine Wp.brnT (a8R hl) ?_
  rw [← c7W]
  rfl
noncomputable def c5L (s:PrT) (p:Prm) (r:RepT) (now:I .u64):I .i64 :=
 if prV s = true then
  if a7R p = true then
   if atN s.posters r.from' < s.posters.length then
    if s.last.nat ≤ r.upto.nat∧r.upto.nat ≤ now.nat then
     if r.cost.val < c6B then I.of .i64 0
     else I.of .i64 2
    else I.of .i64 14
   else I.of .i64 8
  else I.of .i64 15
 else I.of .i64 2
theorem e2N (s:PrT) (p:Prm) (r:RepT) (now:I .u64) :
  ((c5L s p r now).val = 0∧((c5G s p r now).val = 0 ∨ (s.reports.nat = 18446744073709551615∧c5G s p r now = I.of .i64 4))) ∨ ((c5L s p r now).val ≠ 0∧c5G s p r now = c5L s p r now):=by
 unfold c5L c5G
 split
 ·
  split
  ·
   split
   ·
    split
    ·
     split
     ·
      left
      refine ⟨rfl,?_⟩
      split
      ·
       rename_i h; exact .inr ⟨h,rfl⟩
      ·
       exact .inl rfl
     ·
      exact .inr ⟨by decide,rfl⟩
    ·
     exact .inr ⟨by decide,rfl⟩
   ·
    exact .inr ⟨by decide,rfl⟩
  ·
   exact .inr ⟨by decide,rfl⟩
 ·
  exact .inr ⟨by decide,rfl⟩
theorem e0I {s:PrT} {p:Prm} {r:RepT} {now:I .u64} (h:(c5L s p r now).val = 0):prV s = true∧a7R p = true∧atN s.posters r.from' < s.posters.length∧(s.last.nat ≤ r.upto.nat∧r.upto.nat ≤ now.nat)∧r.cost.val < c6B:=by
 unfold c5L at h
 split at h
 ·
  rename_i h1
  split at h
  ·
   rename_i h2
   split at h
   ·
    rename_i h3
    split at h
    ·
     rename_i h4
     split at h
     ·
      rename_i h5; exact ⟨h1,h2,h3,h4,h5⟩
     ·
      exact absurd h (by decide)
    ·
     exact absurd h (by decide)
   ·
    exact absurd h (by decide)
  ·
   exact absurd h (by decide)
 ·
  exact absurd h (by decide)
theorem f2L (s:PrT) (p:Prm) (r:RepT) (now:I .u64) (hl:s.posters.length ≤ 1073741824) :
  b2D K0 ((s,(p,(r,(now,())))),()) = some ((c5L s p r now,()),()):=by
 refine Wp.out (T:=fun o=>o = _) ?_
 unfold b2D c5L
 refine Wp.optF (c5Z s hl) ?_
 refine Wp.brn (fun h=>?_) (fun h=>?_)
 ·
  have h:prV s = false:=b3F h
  rw [if_neg (by rw [h]; simp)]; rfl
 have h:prV s = true:=b3D h
 rw [if_pos h]
 refine Wp.optF (b6B p) ?_
 refine Wp.brn (fun h=>?_) (fun h=>?_)
 ·
  have h:a7R p = false:=b3F h
  rw [if_neg (by rw [h]; simp)]; rfl
 have h:a7R p = true:=b3D h
 rw [if_pos h]
 refine Wp.optF (c9L (l:=s.posters) r.from' hl) ?_
 rw [show (((atI s.posters r.from',()),()):((I .i64) × Unit) × Unit).1.1 = atI s.posters r.from' from rfl,d5N hl]
 refine Wp.brn (fun h=>?_) (fun h=>?_)
 ·
  rw [if_neg (of_decide_eq_true h)]; rfl
 rw [if_pos (by simpa using of_decide_eq_false h)]
 refine Wp.jnI ?_
 simp only [c2P]
 refine Wp.brn (fun h=>?_) (fun h=>?_)
 ·
  have h:r.upto.nat < s.last.nat:=of_decide_eq_true h
  rw [if_neg (by omega)]; rfl
 have h1:¬ r.upto.nat < s.last.nat:=of_decide_eq_false h
 refine Wp.brn (fun h=>?_) (fun h=>?_)
 ·
  have h:now.nat < r.upto.nat:=of_decide_eq_true h
  rw [if_neg (by omega)]; rfl
 have h2:¬ now.nat < r.upto.nat:=of_decide_eq_false h
 rw [if_pos (by omega)]
 refine Wp.call (e6G r.cost) ?_
 rintro _ ⟨k,rfl,hB,hk⟩
 rw [show (((i6 k,()),()):((I .i64) × Unit) × Unit).1.1 = i6 k from rfl,g1P hB hk]
 refine Wp.brn (fun h=>?_) (fun h=>?_)
 ·
  rw [if_neg (of_decide_eq_true h)]; rfl
 rw [if_pos (Classical.byContradiction (of_decide_eq_false h))]
 rfl
theorem e7J (s:PrT) (p:Prm) (pool:U) (r:RepT) (now:I .u64) (hl:s.posters.length ≤ 1073741824) :
  b0K K0 ((s,(p,(pool,(r,(now,()))))),()) = some (((b3K s p pool r now).1,((b3K s p pool r now).2.1,((b3K s p pool r now).2.2,()))),()):=by
 refine Wp.out (T:=fun o=>o = _) ?_
 unfold b0K b3K
 refine Wp.optF (f2L s p r now hl) ?_
 have hcc:=e2N s p r now
 refine Wp.brn (fun h=>?_) (fun h=>?_)
 ·
  have h:¬ (c5L s p r now).val = 0:=iff_neb.1 h
  rcases hcc with ⟨h',_⟩ | ⟨_,h'⟩
  ·
   exact absurd h' h
  rw [h',if_neg h]
  rfl
 have h0:(c5L s p r now).val = 0:=niff_neb.1 h
 have ⟨f1,f2,f3,f4,f5⟩:=e0I h0
 refine Wp.optF (f0K s.units s.last r.upto now f4.1 f4.2) ?_
 have hle:=d2F (units:=s.units) f4.1 f4.2
 have hu:=a3V s.units
 have hnv:(I.of .u64 (b7Y s.units s.last r.upto now:Int)).nat = b7Y s.units s.last r.upto now:=b9F (by omega)
 have e:U.val (I.of .u64 (b7Y s.units s.last r.upto now:Int),(I.of .u64 0,(I.of .u64 0,(I.of .u64 0,())))) = c4V s r now:=(c5B _).trans hnv
 have hM:=e6D p.rpu (I.of .u64 (b7Y s.units s.last r.upto now:Int),(I.of .u64 0,(I.of .u64 0,(I.of .u64 0,()))))
 rw [e] at hM
 refine Wp.optF hM (Wp.jnI ?_)
 rcases hcc with ⟨_,hcs⟩ | ⟨h',_⟩
 case inr=>exact absurd h0 h'
 simp only [e9K]
 refine Wp.brn (fun hw=>?_) (fun hw=>?_)
 ·
  have hw:¬ p.rpu.val * c4V s r now < U.top:=of_decide_eq_true hw
  rcases hcs with hcs | ⟨_,hcs⟩
  ·
   rw [if_pos hcs,if_neg hw]; rfl
  ·
   rw [hcs,if_neg b7G]; rfl
 have hw:=of_decide_eq_false hw
 have hw:p.rpu.val * c4V s r now < U.top:=by omega
 rw [c6E hw]
 rcases hcs with hcs | ⟨hmax,hcs⟩
 case inr =>
  refine Wp.brnT ?_ ?_
  ·
   have hv:=a2F s.reports
   rw [c7W,hmax]
   rfl
  ·
   rw [hcs,if_neg b7G]; rfl
 have hC:=d4P hcs
 have hcnt:=d9S hC
 rw [if_pos hcs,if_pos hw]
 refine Wp.brnF (by rw [d0Q]; exact decide_eq_false (by show ¬ (I.add s.reports (I.of .u64 1)).nat = 0; rw [hcnt]; omega)) ?_
 refine Wp.optF (e6B s.posters r.from' r.cost (U.of (p.rpu.val * c4V s r now)) (I.add s.reports (I.of .u64 1)) hC.tab hC.fnd (by rw [hcnt]; omega)) ?_
 have hA:=d4J (c:=r.cost) (w:=U.of (p.rpu.val * c4V s r now)) (since:=I.add s.reports (I.of .u64 1)) hC.tab hC.fnd (by rw [hcnt]; omega)
 have hL:b7F s.posters r.from' r.cost (U.of (p.rpu.val * c4V s r now)) (I.add s.reports (I.of .u64 1)) = b4T s p r now:=rfl
 rw [hL] at hA ⊢
 rcases hA with ⟨hA,_⟩ | ⟨hA,_,_,hT⟩
 ·
  rw [if_neg (by rw [hA]; exact b7G)]
  simp only [hA]
  exact Wp.brnT rfl rfl
 rw [if_pos (by rw [hA]; rfl)]
 simp only [hA]
 refine Wp.brnF rfl ?_
 generalize (b4T s p r now).1 = l at hT ⊢
 have hl64:=hT.1
 have hP:=f3T l pool (by omega)
 rw [f6X hT pool] at hP
 refine Wp.optF hP ?_
 have hpl:=d3V l pool
 refine Wp.optF (f2O l (b3A (ord l) pool.val) (by omega) (by show (a2G l pool).length ≤ _; omega)) ?_
 rw [show b3A (ord l) pool.val = a2G l pool from rfl]
 rcases d7X hT pool with hB | ⟨hB,hT2,_,_,hdu⟩
 ·
  rw [if_neg (by rw [hB]; exact b7G)]
  simp only [hB]
  exact Wp.brnT rfl rfl
 rw [if_pos (by rw [hB]; rfl)]
 simp only [hB]
 refine Wp.brnF rfl ?_
 have hsum:=e7G l pool
 have hpo:=pool.lt
 have hps:b2E ((a2G l pool).map amt) < U.top:=by omega
 refine Wp.optF (f0P (l:=a2G l pool) (by omega)) ?_
 rw [c6E hps]
 refine Wp.optF (c1Z pool _) ?_
 have hsv:(U.of (b2E ((a2G l pool).map amt))).val = b2E ((a2G l pool).map amt):=U.val_of hps
 have hsub:(e8N pool (U.of (b2E ((a2G l pool).map amt)))).1 = U.of (pool.val - b2E ((a2G l pool).map amt)):=by
  unfold e8N
  rw [hsv,if_pos (by omega)]
 refine Wp.optF (d8V (by have:=hT2.1; omega) hT2) ?_
 unfold c6F
 have e1:(c1T s (a3J l (a2G l pool)).1).posters = (a3J l (a2G l pool)).1:=rfl
 rw [e1]
 simp only [e9K]
 refine Wp.brn (fun hd=>?_) (fun hd=>?_)
 ·
  have hd:=of_decide_eq_true hd
  simp only [if_neg hd]
  rw [if_neg b7G]; rfl
 have hd:=of_decide_eq_false hd
 have hd:b2E ((a3J l (a2G l pool)).1.map b7O) < U.top:=by omega
 simp only [if_pos hd,hsub]
 rw [c6E hd]
 refine Wp.optF (f5V _ _) (Wp.jnI ?_)
 have hz:S.of (((U.of (pool.val - b2E ((a2G l pool).map amt))).val:Int) - ((U.of (b2E ((a3J l (a2G l pool)).1.map b7O))).val:Int)) = c5E pool (a3J l (a2G l pool)).1 (a2G l pool):=by
  unfold c5E
  rw [U.val_of hd,U.val_of (by omega)]
 simp only [hz]
 have hn1:(b9P s p r now (a2G l pool)).1.nat = c4V s r now:=hnv
 rw [hn1]
 have e0:(I.of .u64 0).nat = 0:=rfl
 simp only [c2P]
 rw [e0,show (I.of .u64 (b7Y s.units s.last r.upto now:Int)).nat = c4V s r now from hnv]
 refine Wp.brn (fun hp=>?_) (fun hp=>?_)
 ·
  have hp:=of_decide_eq_true hp
  simp only [if_neg (show ¬ c4V s r now = 0 by omega)]
  refine Wp.optF (f4G _ _ _ _ _) ?_
  refine Wp.brn (fun hN=>?_) (fun hN=>?_)
  ·
   have hN:I.neb (c2U s.price (c5E pool (a3J l (a2G l pool)).1 (a2G l pool)) s.surplus (I.of .u64 (b7Y s.units s.last r.upto now:Int)) p).2 (I.of .i64 0) = true:=hN
   have hN2:I.neb (c2U (c1T s (a3J l (a2G l pool)).1).price (c5E pool (a3J l (a2G l pool)).1 (b9P s p r now (a2G l pool)).2.2.1) (c1T s (a3J l (a2G l pool)).1).surplus (b9P s p r now (a2G l pool)).1 p).2 (I.of .i64 0) = true:=hN
   simp only [if_pos hN2]
   have:¬ (c2U (c1T s (a3J l (a2G l pool)).1).price (c5E pool (a3J l (a2G l pool)).1 (b9P s p r now (a2G l pool)).2.2.1) (c1T s (a3J l (a2G l pool)).1).surplus (b9P s p r now (a2G l pool)).1 p).2.val = 0:=iff_neb.1 hN2
   rw [if_neg this]; rfl
  ·
   have hN:I.neb (c2U s.price (c5E pool (a3J l (a2G l pool)).1 (a2G l pool)) s.surplus (I.of .u64 (b7Y s.units s.last r.upto now:Int)) p).2 (I.of .i64 0) = false:=hN
   have hN2:¬ I.neb (c2U (c1T s (a3J l (a2G l pool)).1).price (c5E pool (a3J l (a2G l pool)).1 (b9P s p r now (a2G l pool)).2.2.1) (c1T s (a3J l (a2G l pool)).1).surplus (b9P s p r now (a2G l pool)).1 p).2 (I.of .i64 0) = true:=fun h=>by
    have h:I.neb (c2U s.price (c5E pool (a3J l (a2G l pool)).1 (a2G l pool)) s.surplus (I.of .u64 (b7Y s.units s.last r.upto now:Int)) p).2 (I.of .i64 0) = true:=h
    rw [hN] at h; cases h
   simp only [if_neg hN2]
   rw [if_pos (show (I.of .i64 0).val = 0 from rfl)]; rfl
 ·
  have hp:=of_decide_eq_false hp
  have hp0:c4V s r now = 0:=by omega
  simp only [if_pos hp0]
  rw [if_pos (show (I.of .i64 0).val = 0 from rfl)]; rfl
end Sym

/- The machine of the reference: numbers that need not fit, the ledger. -/
namespace Sym
open Go
theorem f5T (a q:Nat):U.of (a + U.top * q) = U.of a:=by
 unfold U.of U.top
 have h0:(a + 115792089237316195423570985008687907853269984665640564039457584007913129639936 * q) % 18446744073709551616 = a % 18446744073709551616:=by omega
 have h1:(a + 115792089237316195423570985008687907853269984665640564039457584007913129639936 * q) / 18446744073709551616 % 18446744073709551616 = a / 18446744073709551616 % 18446744073709551616:=by omega
 have h2:(a + 115792089237316195423570985008687907853269984665640564039457584007913129639936 * q) / 340282366920938463463374607431768211456 % 18446744073709551616 = a / 340282366920938463463374607431768211456 % 18446744073709551616:=by omega
 have h3:(a + 115792089237316195423570985008687907853269984665640564039457584007913129639936 * q) / 6277101735386680763835789423207666416102355444464034512896 % 18446744073709551616 = a / 6277101735386680763835789423207666416102355444464034512896 % 18446744073709551616:=by omega
 rw [h0,h1,h2,h3]
theorem c2L {l:List Dg} {n:Nat} (hl:IsB l n) (hlen:l.length ≤ 1000000):a0K K0 ((l,()),()) = some ((U.of n,()),()):=by
 have ht:U.top = 65536 ^ 16:=by decide
 have c16:(I.of .i64 16).val = 16:=rfl
 have c4:(I.of .i64 4).val = 4:=rfl
 have c1:(I.of .i64 1).val = 1:=rfl
 have hol:(I.ofNat .i64 (a0G l)).val = l.length:=a3F (by show l.length < _; omega)
 have key:Wp (fun o=>o = some ((U.of n,()),())) (a0K K0 ((l,()),())):=by
  unfold a0K
  refine Wp.iter (fun x=>x.1.1 = l∧0 ≤ x.1.2.1.val∧x.1.2.1.val ≤ (l.length:Int)∧x.1.2.1.val ≤ 16∧U.val x.2.2.1 = bv (l.take x.1.2.1.val.toNat)) (fun x=>((l.length:Int) - x.1.2.1.val).toNat) ?_ ?_ ?_
  ·
   rintro ⟨⟨l',i,⟨⟩⟩,r0,u,⟨⟩⟩ ⟨e1,hi0,hi1,hi2,hu⟩
   simp only at e1 hi0 hi1 hi2 hu
   subst e1
   have fin:i.val.toNat = min 16 l'.length→u = U.of n:=by
    intro e
    have e16:l'.take i.val.toNat = l'.take 16:=by rw [e,List.take_eq_take_iff]; simp
    rw [e16] at hu
    have hn:n = bv (l'.take 16) + U.top * bv (l'.drop 16):=by
     rw [← hl.val]
     conv=>lhs; rw [← List.take_append_drop 16 l',c3J]
     by_cases hc:l'.length ≤ 16
     ·
      rw [List.drop_eq_nil_of_le hc]
      rfl
     ·
      rw [List.length_take,Nat.min_eq_left (by omega),ht]
    rw [hn,f5T,← hu]
    exact (U.of_val u).symm
   refine Wp.brn (fun h=>?_) (fun h=>?_)
   ·
    have h:=iff_ltb.1 h
    simp only [hol] at h
    have hlt:i.val.toNat < l'.length:=by omega
    refine Wp.brn (fun h16=>?_) (fun h16=>?_)
    case refine_2 =>
     have h16:(I.of .i64 16).val ≤ i.val:=niff_ltb.1 h16
     have:=fin (by omega)
     subst this
     exact Wp.done rfl
    have h16:i.val < (I.of .i64 16).val:=iff_ltb.1 h16
    have hq:(I.quo i (I.of .i64 4)).val = i.val / 4:=b7H hi0 (by decide)
    have hr:(I.rem i (I.of .i64 4)).val = i.val % 4:=b6F hi0 (by decide)
    have hs:(I.add i (I.of .i64 1)).val = i.val + 1:=by rw [a5Q (by omega)]; omega
    have hm:(I.mul (I.of .i64 16) (I.rem i (I.of .i64 4))).val = 16 * (i.val % 4):=by rw [c3Q (by rw [c16,hr]; omega),hr,c16]
    have hin:inB (I.quo i (I.of .i64 4)) 4 = true:=iff_inB.2 ⟨by omega,by omega⟩
    refine Wp.brnT hin ?_
    refine Wp.brnT (iff_inB.2 ⟨hi0,by show i.val < ((l'.length:Nat):Int); omega⟩) ?_
    refine Wp.brnT (c3B _) ?_
    refine Wp.brnT hin ?_
    have hdig:DigOk l'[i.val.toNat]:=hl.dig _ (List.getElem_mem hlt)
    have hrd:rdL (I.of .i64 0) l' (I.nat i) = l'[i.val.toNat]:=a4N _ _ _ hlt
    have e1:I.nat (I.quo i (I.of .i64 4)) = i.val.toNat / 4:=by unfold I.nat; omega
    have e2:I.conv .u64 (I.mul (I.of .i64 16) (I.rem i (I.of .i64 4))) = I.of .u64 (16 * (i.val.toNat % 4):Nat):=by
     show I.of .u64 _ = _
     rw [hm]
     congr 1
     omega
    have e3:I.conv .u64 (rdL (I.of .i64 0) l' (I.nat i)) = I.of .u64 ((l'[i.val.toNat]).nat:Int):=by
     show I.of .u64 _ = _
     rw [hrd,hdig.nat.1]
    have hub:U.val u < 65536 ^ i.val.toNat:=by
     rw [hu]
     have:=e2P (c1Y hl.dig i.val.toNat)
     rw [List.length_take] at this
     rwa [Nat.min_eq_left (by omega)] at this
    have st:=e4P u (l'[i.val.toNat]).nat i.val.toNat (by omega) hub hdig.nat.2
    refine Wp.again ⟨rfl,?_,?_,by show (I.add i (I.of .i64 1)).val ≤ 16; omega,?_⟩ ?_
    ·
     show 0 ≤ (I.add i (I.of .i64 1)).val; omega
    ·
     show (I.add i (I.of .i64 1)).val ≤ _; omega
    ·
     show U.val (Arr.upd 4 u (I.nat (I.quo i (I.of .i64 4))) (I.add (Arr.sel (I.of .u64 0) 4 u (I.nat (I.quo i (I.of .i64 4)))) (I.shl (I.conv .u64 (rdL (I.of .i64 0) l' (I.nat i))) (I.conv .u64 (I.mul (I.of .i64 16) (I.rem i (I.of .i64 4))))))) = bv (l'.take (I.add i (I.of .i64 1)).val.toNat)
     have e4:(I.add i (I.of .i64 1)).val.toNat = i.val.toNat + 1:=by omega
     rw [e1,e2,e3,e4,st,c4D hlt,← hu]
    ·
     show ((l'.length:Int) - (I.add i (I.of .i64 1)).val).toNat < _
     simp only; omega
   ·
    have h:=niff_ltb.1 h
    simp only [hol] at h
    have:=fin (by omega)
    subst this
    exact Wp.done rfl
  ·
   refine ⟨rfl,by show 0 ≤ (I.of .i64 0).val; decide,by show (I.of .i64 0).val ≤ (l.length:Int); have:(I.of .i64 0).val = 0:=rfl; omega,by show (I.of .i64 0).val ≤ 16; decide,?_⟩
   show U.val _ = bv (l.take (I.of .i64 0).val.toNat)
   rfl
  ·
   exact b8G _ (by show ((l.length:Int) - (I.of .i64 0).val).toNat < _; have:(I.of .i64 0).val = 0:=rfl; omega)
 exact key.out
end Sym

/- The ledger of the reference. -/
namespace Sym
open Go
abbrev Ac:Type:=a0F
abbrev V4:Type:=b7P
noncomputable abbrev dA:Ac:=a1F
abbrev LgH:Type:=a0P
def aAt (l:List Ac) (a:I .u64):Nat:=l.findIdx fun p=>I.eqb p.1 a
def aAI (l:List Ac) (a:I .u64):I .i64:=if aAt l a < l.length then i6 (aAt l a) else I.of .i64 (-1)
theorem g4I {l:List Ac} {a:I .u64} {i:Nat} (hi:i < l.length) (h1:I.eqb (rdL dA l i).1 a = true) (h2:∀ k,k < i→I.eqb (rdL dA l k).1 a = false):aAt l a = i:=by
 unfold aAt
 rw [List.findIdx_eq hi]
 refine ⟨by rw [← a4N dA l i hi]; exact h1,fun k hk=>?_⟩
 rw [← a4N dA l k (by omega)]
 exact h2 k hk
theorem f6Q {l:List Ac} {a:I .u64} (h2:∀ k,k < l.length→I.eqb (rdL dA l k).1 a = false):aAt l a = l.length:=by
 unfold aAt
 rw [List.findIdx_eq_length]
 intro x hx
 obtain ⟨k,hk,rfl⟩:=c4F dA hx
 exact h2 k hk
theorem at_eq (l:List Ac) (v:V4 × Unit) (a:I .u64) (hl:l.length ≤ 1073741824):a6L K0 (((l,v),(a,())),()) = some ((aAI l a,()),()):=by
 refine Wp.out (T:=fun o=>o = some ((aAI l a,()),())) ?_
 unfold a6L
 simp only [a6F,a9I,c0H,b4M]
 refine Wp.iter (fun s=>∃ i,s = (((l,v),(a,(i6 i,()))),())∧i ≤ l.length∧∀ k,k < i→I.eqb (rdL dA l k).1 a = false) (fun s=>l.length - s.1.2.2.1.val.toNat) ?_ ⟨0,rfl,by omega,fun k hk=>by omega⟩ ?_
 ·
  rintro s ⟨i,rfl,hi,ht⟩
  simp only [a2M (show i < 9223372036854775808 by omega) (show l.length < 9223372036854775808 by omega),a3C (show i < 9223372036854775808 by omega),a3H (show i + 1 < 9223372036854775808 by omega)]
  refine Wp.brn (fun hc=>?_) (fun hc=>?_)
  ·
   have hc:=of_decide_eq_true hc
   refine Wp.brnT (a3D (by omega) (by omega)) ?_
   refine Wp.brn (fun h=>?_) (fun h=>?_)
   ·
    refine Wp.done ?_
    have e:=g4I hc h ht
    unfold aAI
    rw [e,if_pos hc]
    rfl
   ·
    refine Wp.again ⟨i + 1,rfl,by omega,fun k hk=>?_⟩ (by show l.length - (i6 (i + 1)).val.toNat < l.length - (i6 i).val.toNat; rw [a0V (by omega),a0V (by omega)]; omega)
    rcases (by omega:k < i ∨ k = i) with h3 | rfl
    ·
     exact ht k h3
    ·
     exact h
  ·
   have hc:=of_decide_eq_false hc
   refine Wp.done ?_
   have e:=f6Q fun k hk=>ht k (by omega)
   unfold aAI
   rw [if_neg (by omega)]
   rfl
 ·
  rw [a6G]
  show l.length - _ < _
  omega
theorem d5R {l:List Ac} {a:I .u64} (hl:l.length ≤ 1073741824):I.leb (I.of .i64 0) (aAI l a) = decide (aAt l a < l.length):=by
 unfold aAI
 by_cases h:aAt l a < l.length
 ·
  rw [if_pos h,decide_eq_true h]
  exact iff_leb.2 (by rw [a0V (by omega),show (I.of .i64 0).val = 0 from rfl]; omega)
 ·
  rw [if_neg h,decide_eq_false h]
  exact niff_leb.2 (by decide)
noncomputable def c3P (l:List Ac) (a:I .u64):Ac:=if aAt l a < l.length then rdL dA l (aAt l a) else (a,(Z_U,((I.of .u64 0),())))
def f5R (l:List Ac) (x:Ac):List Ac:=if aAt l x.1 < l.length then b6Q l (aAt l x.1) x else l ++ [x]
theorem d8Q (l:List Ac) (v:V4 × Unit) (a:I .u64) (hl:l.length ≤ 1073741824):a3A K0 (((l,v),(a,())),()) = some ((c3P l a,()),()):=by
 refine Wp.out (T:=fun o=>o = some ((c3P l a,()),())) ?_
 unfold a3A
 refine Wp.optF (at_eq l v a hl) ?_
 refine Wp.brn (fun h=>?_) (fun h=>?_)
 ·
  have h:I.leb (I.of .i64 0) (aAI l a) = true:=h
  rw [d5R hl] at h
  have h:=of_decide_eq_true h
  have e:aAI l a = i6 (aAt l a):=by unfold aAI; rw [if_pos h]
  refine Wp.brnT (by show inB (aAI l a) (a0G l) = true; rw [e]; exact a3D h (by omega)) ?_
  show some ((rdL dA l (I.nat (aAI l a)),()),()) = _
  rw [e,a3C (by omega)]
  unfold c3P
  rw [if_pos h]
 ·
  have h:I.leb (I.of .i64 0) (aAI l a) = false:=h
  rw [d5R hl] at h
  have h:=of_decide_eq_false h
  show some (((a,(Z_U,((I.of .u64 0),()))),()),()) = _
  unfold c3P
  rw [if_neg h]
theorem put_eq (l:List Ac) (h0:LgH) (x:Ac) (hl:l.length < 1073741824):a4O K0 ((x,()),(h0,(l,()))) = some ((),(h0,(f5R l x,()))):=by
 refine Wp.out (T:=fun o=>o = some ((),(h0,(f5R l x,())))) ?_
 unfold a4O
 refine Wp.optF (at_eq l h0.2 x.1 (by omega)) ?_
 refine Wp.brn (fun h=>?_) (fun h=>?_)
 ·
  have h:I.leb (I.of .i64 0) (aAI l x.1) = true:=h
  rw [d5R (by omega)] at h
  have h:=of_decide_eq_true h
  have e:aAI l x.1 = i6 (aAt l x.1):=by unfold aAI; rw [if_pos h]
  refine Wp.brnT (by show inB (aAI l x.1) (a0G l) = true; rw [e]; exact a3D h (by omega)) ?_
  show some ((),(h0,(b6Q l (I.nat (aAI l x.1)) x,()))) = _
  rw [e,a3C (by omega)]
  unfold f5R
  rw [if_pos h]
 ·
  have h:I.leb (I.of .i64 0) (aAI l x.1) = false:=h
  rw [d5R (by omega)] at h
  have h:=of_decide_eq_false h
  refine Wp.brnT (a8R (by show (l ++ [x]).length ≤ _; rw [List.length_append]; show l.length + 1 ≤ _; omega)) ?_
  show some ((),(h0,(l ++ [x],()))) = _
  unfold f5R
  rw [if_neg h]
theorem c2G {X:Type} (l:List X) (i:Nat) (x:X):(b6Q l i x).length = l.length:=by rw [b6Q,a7X,List.length_set]
theorem d5A (l:List Ac) (x:Ac):(f5R l x).length ≤ l.length + 1:=by
 unfold f5R
 split
 ·
  rw [c2G]; omega
 ·
  simp
def e5N (x:Ac) (n:U):Ac:=(x.1,(n,x.2.2))
noncomputable def c8B (l:List Ac) (a:I .u64) (n:U):List Ac:=f5R l (e5N (c3P l a) (U.of ((c3P l a).2.1.val + n.val)))
noncomputable def b1Q (l:List Ac) (a:I .u64) (n:U):Bool:=decide (n.val ≤ (c3P l a).2.1.val)
noncomputable def c1Q (l:List Ac) (a:I .u64) (n:U):List Ac:=if n.val ≤ (c3P l a).2.1.val then f5R l (e5N (c3P l a) (U.of ((c3P l a).2.1.val - n.val))) else l
theorem d3R {l:List Dg} {a:U} (h:IsB l a.val):l.length ≤ 1000000:=b3R h (k:=16) (Nat.lt_of_lt_of_le (U.lt a) (by decide)) (by decide)
theorem f3I {l:List Dg} {n:Nat} (h:IsB l n) (hn:n < U.top + U.top):l.length ≤ 1000000:=b3R h (k:=17) (Nat.lt_of_lt_of_le hn (by decide)) (by decide)
theorem d8J (l:List Ac) (h0:LgH) (a:I .u64) (n:U) (hl:l.length < 1073741824):a4R K0 ((a,(n,())),(h0,(l,()))) = some ((),(h0,(c8B l a n,()))):=by
 refine Wp.out (T:=fun o=>o = some ((),(h0,(c8B l a n,())))) ?_
 unfold a4R
 obtain ⟨b1,e1,B1⟩:=a0X (c3P l a).2.1
 obtain ⟨b2,e2,B2⟩:=a0X n
 obtain ⟨b3,e3,B3⟩:=a9P B1 B2 (d3R B1) (d3R B2)
 have e4:=c2L B3 (f3I B3 (by have:=U.lt (c3P l a).2.1; have:=U.lt n; omega))
 exact Wp.optF (d8Q l h0.2 a (by omega)) (Wp.optF e1 (Wp.optF e2 (Wp.optF e3 (Wp.optF e4 (Wp.optF (put_eq l h0 (e5N (c3P l a) (U.of ((c3P l a).2.1.val + n.val))) hl) rfl)))))
theorem d6D (l:List Ac) (h0:LgH) (a:I .u64) (n:U) (hl:l.length < 1073741824):a3Y K0 ((a,(n,())),(h0,(l,()))) = some ((b1Q l a n,()),(h0,(c1Q l a n,()))):=by
 refine Wp.out (T:=fun o=>o = some ((b1Q l a n,()),(h0,(c1Q l a n,())))) ?_
 unfold a3Y
 refine Wp.optF (d8Q l h0.2 a (by omega)) (Wp.optF (c1Z _ n) ?_)
 unfold b1Q c1Q e8N
 by_cases h:n.val ≤ (c3P l a).2.1.val
 ·
  simp only [if_pos h,decide_eq_true h]
  refine Wp.brnF (show I.neb (I.of .i64 0) (I.of .i64 0) = false by decide) ?_
  exact Wp.optF (put_eq l h0 (e5N (c3P l a) (U.of ((c3P l a).2.1.val - n.val))) hl) rfl
 ·
  simp only [if_neg h,decide_eq_false h]
  exact Wp.brnT (show I.neb (I.of .i64 4) (I.of .i64 0) = true by decide) rfl
theorem d1X (l:List Ac) (a:I .u64) (n:U):(c8B l a n).length ≤ l.length + 1:=d5A _ _
theorem c1H (l:List Ac) (a:I .u64) (n:U):(c1Q l a n).length ≤ l.length + 1:=by
 unfold c1Q
 split
 ·
  exact d5A _ _
 ·
  omega
end Sym

/- The ledger of the reference: payments, the supply. -/
namespace Sym
open Go
def g6L {X R S:Type} (g:R→S):Stp X R→Stp X S
 | .again y=>.again y
 | .done r=>.done (g r)
theorem f5G {X R S:Type} (g:R→S) (c:Bool) (t f:Stp X R):g6L g (brn c t f) = brn c (g6L g t) (g6L g f):=by cases c <;> rfl
theorem e3F {X R S:Type} (g:R→S) {fail:R} {f:X→Stp X R} {f':X→Stp X S} (h:∀ x,f' x = g6L g (f x)):∀ k x,iter (g fail) f' k x = g (iter fail f k x)
 | 0,_=>rfl
 | k + 1,x=>by
  unfold iter
  rw [h x]
  cases f x with
  | again y=>exact e3F g h k y
  | done r=>rfl
def g6T (o:Option ((List Dg × Unit) × Unit)):Option (Unit × (List Dg × Unit)):=match o with
 | some y=>some ((),(y.1.1,()))
 | none=>none
theorem f6P (a b:List Dg):a8U K0 ((a,(b,())),()) = g6T (a0T K0 ((a,(b,())),())):=by
 unfold a8U a0T
 refine e3F g6T (fail:=none) (fun x=>?_) _ _
 unfold jn
 dsimp only
 repeat erw [f5G]
 rfl
theorem e9H {a b:List Dg} {m n:Nat} (ha:IsB a m) (hb:IsB b n) (hal:a.length ≤ 1000000) (hbl:b.length ≤ 1000000):∃ r,a8U K0 ((a,(b,())),()) = some ((),(r,()))∧IsB r (m + n):=by
 obtain ⟨r,h,hB⟩:=a9P ha hb hal hbl
 exact ⟨r,by rw [f6P]; exact congrArg g6T h,hB⟩
def e6U (l:List Ac):Nat:=(l.map fun x=>U.val x.2.1).sum
def g5G (v:V4):Nat:=v.1.val + v.2.1.val + v.2.2.1.val + v.2.2.2.1.val
theorem f1D {l:List Ac} {i:Nat} (h:i < l.length):e6U (l.take (i + 1)) = e6U (l.take i) + U.val (rdL dA l i).2.1:=by
 unfold e6U
 rw [List.take_add_one,List.getElem?_eq_getElem h,a4N _ _ _ h,List.map_append,List.sum_append]
 simp
theorem e2F (l:List Ac) (hl:l.length ≤ 1073741824):e6U l < 65536 ^ 19:=by
 have:∀ l:List Ac,e6U l ≤ l.length * U.top:=by
  intro l
  induction l with
  | nil=>exact Nat.zero_le _
  | cons x l ih =>
   have:=U.lt x.2.1
   show U.val x.2.1 + e6U l ≤ (l.length + 1) * U.top
   rw [Nat.add_mul]
   omega
 have h1:=this l
 have h2:l.length * U.top ≤ 1073741824 * U.top:=Nat.mul_le_mul_right _ hl
 have h3:1073741824 * U.top < 65536 ^ 19:=by decide
 omega
theorem f6C {l:List Dg} {n:Nat} (h:IsB l n) (hn:n < 65536 ^ 20):l.length ≤ 1000000:=b3R h (k:=20) hn (by decide)
def d7V (v:V4) (i:Nat):Nat:=(if 0 < i then v.1.val else 0) + (if 1 < i then v.2.1.val else 0) + (if 2 < i then v.2.2.1.val else 0) + (if 3 < i then v.2.2.2.1.val else 0)
theorem f1Q (v:V4) (i:Nat) (h:i < 4):d7V v (i + 1) = d7V v i + U.val (Arr.sel Z_U 4 v i):=by
 rcases (by omega:i = 0 ∨ i = 1 ∨ i = 2 ∨ i = 3) with rfl | rfl | rfl | rfl
 ·
  show d7V v 1 = d7V v 0 + U.val v.1; simp [d7V]
 ·
  show d7V v 2 = d7V v 1 + U.val v.2.1; simp [d7V]
 ·
  show d7V v 3 = d7V v 2 + U.val v.2.2.1; simp [d7V]
 ·
  show d7V v 4 = d7V v 3 + U.val v.2.2.2.1; simp [d7V]
theorem f1Y (v:V4) (i:Nat):d7V v i < 65536 ^ 18:=by
 have h0:=U.lt v.1; have h1:=U.lt v.2.1; have h2:=U.lt v.2.2.1; have h3:=U.lt v.2.2.2.1
 have:4 * U.top < 65536 ^ 18:=by decide
 unfold d7V
 split <;> split <;> split <;> split <;> omega
theorem e9N (l:List Ac) (v:V4) (hl:l.length ≤ 1073741824):∃ y,a6K K0 (((l,(v,())),()),()) = some y∧∃ r,y = ((r,()),())∧IsB r (e6U l + g5G v):=by
 refine Wp.out (T:=fun o=>∃ y,o = some y∧∃ r,y = ((r,()),())∧IsB r (e6U l + g5G v)) ?_
 unfold a6K
 have hp:(65536 ^ 20:Nat) = 65536 * 65536 ^ 19:=by decide
 have hp2:(65536 ^ 19:Nat) = 65536 * 65536 ^ 18:=by decide
 have hb:=e2F l hl
 refine Wp.iter (fun s=>∃ (i:Nat) (r:List Dg),s = (((l,(v,())),(i6 i,())),(r,()))∧i ≤ l.length∧IsB r (e6U (l.take i))) (fun s=>l.length - s.1.2.1.val.toNat) ?_ ⟨0,[],rfl,by omega,⟨(fun _ h=>by cases h),trivial,rfl⟩⟩ (by rw [a6G]; show l.length - _ < _; omega)
 rintro s ⟨i,r,rfl,hi,hB⟩
 simp only [a6F,a9I,c0H,b4M,a2M (show i < 9223372036854775808 by omega) (show l.length < 9223372036854775808 by omega),a3C (show i < 9223372036854775808 by omega),a3H (show i + 1 < 9223372036854775808 by omega)]
 refine Wp.brn (fun hc=>?_) (fun hc=>?_)
 ·
  have hc:=of_decide_eq_true hc
  refine Wp.brnT (a3D (by omega) (by omega)) ?_
  obtain ⟨b1,e1,B1⟩:=a0X (rdL dA l i).2.1
  have hlt:e6U (l.take i) < 65536 ^ 20:=by
   have:=e2F (l.take i) (by rw [List.length_take]; omega)
   omega
  obtain ⟨b2,e2,B2⟩:=e9H hB B1 (f6C hB hlt) (d3R B1)
  refine Wp.optF e1 (Wp.optF e2 ?_)
  exact Wp.again ⟨i + 1,b2,rfl,by omega,by rw [f1D hc]; exact B2⟩ (by show l.length - (i6 (i + 1)).val.toNat < l.length - (i6 i).val.toNat; rw [a0V (by omega),a0V (by omega)]; omega)
 ·
  have hc:i = l.length:=by have:=of_decide_eq_false hc; omega
  subst hc
  rw [List.take_length] at hB
  refine Wp.done ?_
  refine Wp.iter (fun s=>∃ (i:Nat) (r:List Dg),s = (((l,(v,())),(i6 i,())),(r,()))∧i ≤ 4∧IsB r (e6U l + d7V v i)) (fun s=>4 - s.1.2.1.val.toNat) ?_ ⟨0,r,rfl,by omega,hB⟩ (by rw [a6G]; show 4 - 0 < _; decide)
  rintro s ⟨i,r,rfl,hi,hB⟩
  simp only [show (I.of .i64 4) = i6 4 from rfl,a2M (show i < 9223372036854775808 by omega) (show 4 < 9223372036854775808 by omega),a3C (show i < 9223372036854775808 by omega),a3H (show i + 1 < 9223372036854775808 by omega)]
  refine Wp.brn (fun hc=>?_) (fun hc=>?_)
  ·
   have hc:=of_decide_eq_true hc
   refine Wp.brnT (a3D (by omega) (by omega)) ?_
   obtain ⟨b1,e1,B1⟩:=a0X (Arr.sel Z_U 4 v i)
   have hv:=f1Y v i
   obtain ⟨b2,e2,B2⟩:=e9H hB B1 (f6C hB (by omega)) (d3R B1)
   refine Wp.optF e1 (Wp.optF e2 ?_)
   exact Wp.again ⟨i + 1,b2,rfl,by omega,by rw [f1Q v i hc,← Nat.add_assoc]; exact B2⟩ (by show 4 - (i6 (i + 1)).val.toNat < 4 - (i6 i).val.toNat; rw [a0V (by omega),a0V (by omega)]; omega)
  ·
   have hc:i = 4:=by have:=of_decide_eq_false hc; omega
   subst hc
   exact Wp.done ⟨_,rfl,r,rfl,hB⟩
end Sym

/- The ledger of the reference: its methods. -/
namespace Sym
open Go
abbrev LgR:Type:=I .i64 × V4 × List Ac
noncomputable def c7Y (v:V4) (l:List Ac) (a:I .u64) (n:U):LgR :=
 if a.val = 0 then (I.of .i64 2,v,l)
 else if e6U l + g5G v + n.val < U.top then (I.of .i64 0,v,c8B l a n) else (I.of .i64 4,v,l)
def lgH (v:V4):LgH:=((),(v,()))
theorem g0Y (v:V4) (l:List Ac) (a:I .u64) (n:U) (hl:l.length < 1073741824) :
  a7I K0 ((a,(n,())),(lgH v,(l,()))) = some (((c7Y v l a n).1,()),(lgH (c7Y v l a n).2.1,((c7Y v l a n).2.2,()))):=by
 refine Wp.out (T:=fun o=>o = some (((c7Y v l a n).1,()),(lgH (c7Y v l a n).2.1,((c7Y v l a n).2.2,())))) ?_
 unfold a7I c7Y
 refine Wp.brn (fun h=>?_) (fun h=>?_)
 ·
  rw [if_pos (by have:=iff_eqb.1 h; exact this)]
  rfl
 ·
  rw [if_neg (by have:=niff_eqb.1 h; exact this)]
  obtain ⟨y,hy,r,rfl,hB⟩:=e9N l v (by omega)
  obtain ⟨b1,e1,B1⟩:=a0X n
  have hb:=e2F l (by omega)
  have hv:=f1Y v 4
  have hv':d7V v 4 = g5G v:=rfl
  have hp:(65536 ^ 20:Nat) = 65536 * 65536 ^ 19:=by decide
  have hp2:(65536 ^ 19:Nat) = 65536 * 65536 ^ 18:=by decide
  have hn:=U.lt n
  have ht:U.top < 65536 ^ 18:=by decide
  obtain ⟨b2,e2,B2⟩:=a9P hB B1 (f6C hB (by omega)) (d3R B1)
  have e3:=d4I B2 (f6C B2 (by omega))
  refine Wp.optF hy (Wp.optF e1 (Wp.optF e2 (Wp.optF e3 ?_)))
  by_cases hc:e6U l + g5G v + n.val < U.top
  ·
   rw [if_pos hc]
   refine Wp.brnF (by rw [decide_eq_true hc]; rfl) ?_
   exact Wp.optF (d8J l (lgH v) a n hl) rfl
  ·
   rw [if_neg hc]
   exact Wp.brnT (by rw [decide_eq_false hc]; rfl) rfl
def h0A (v:V4) (k:Nat) (n:U):V4:=Arr.upd 4 v k n
noncomputable def e7E (v:V4) (k:Nat):U:=Arr.sel Z_U 4 v k
noncomputable def c7S (v:V4) (l:List Ac) (a:I .u64) (k:Nat) (n:U):LgR :=
 if a.val = 0 then (I.of .i64 2,v,l)
 else if b1Q l a n = true then (I.of .i64 0,h0A v k (U.of ((e7E v k).val + n.val)),c1Q l a n) else (I.of .i64 10,v,c1Q l a n)
theorem d6K (v:V4) (l:List Ac) (a:I .u64) (k:Nat) (hk:k < 4) (n:U) (hl:l.length < 1073741824) :
  a2T K0 ((a,(i6 (k + 1),(n,()))),(lgH v,(l,()))) = some (((c7S v l a k n).1,()),(lgH (c7S v l a k n).2.1,((c7S v l a k n).2.2,()))):=by
 refine Wp.out (T:=fun o=>o = some (((c7S v l a k n).1,()),(lgH (c7S v l a k n).2.1,((c7S v l a k n).2.2,())))) ?_
 unfold a2T c7S
 have hsub:I.sub (i6 (k + 1)) (I.of .i64 1) = i6 k:=by rw [b4M,b9I (by omega) (by omega)]; rfl
 refine Wp.jn (fun x=>a.val ≠ 0∧x = ((a,(i6 (k + 1),())),(lgH v,(l,(n,()))))) ?_ ?_
 ·
  rintro x ⟨ha,rfl⟩
  rw [if_neg ha]
  refine Wp.optF (d6D l (lgH v) a n hl) ?_
  refine Wp.brn (fun h=>?_) (fun h=>?_)
  ·
   have h:b1Q l a n = false:=by revert h; show a3I (b1Q l a n) = true→_; cases b1Q l a n <;> simp [a3I]
   rw [if_neg (by rw [h]; decide)]
   rfl
  ·
   have h:b1Q l a n = true:=by revert h; show a3I (b1Q l a n) = false→_; cases b1Q l a n <;> simp [a3I]
   rw [if_pos h]
   have hin:inB (I.sub (i6 (k + 1)) (I.of .i64 1)) 4 = true:=by rw [hsub]; exact a3D hk (by omega)
   refine Wp.brnT hin ?_
   simp only [hsub,a3C (show k < 9223372036854775808 by omega)]
   obtain ⟨b1,e1,B1⟩:=a0X (e7E v k)
   obtain ⟨b2,e2,B2⟩:=a0X n
   obtain ⟨b3,e3,B3⟩:=a9P B1 B2 (d3R B1) (d3R B2)
   have e4:=c2L B3 (f3I B3 (by have:=U.lt (e7E v k); have:=U.lt n; omega))
   exact Wp.optF e1 (Wp.optF e2 (Wp.optF e3 (Wp.optF e4 (Wp.brnT (a3D hk (by omega)) rfl))))
 ·
  intro j hj
  refine Wp.brn (fun h=>?_) (fun h=>?_)
  ·
   rw [if_pos (by have:=iff_eqb.1 h; exact this)]
   rfl
  ·
   have ha:a.val ≠ 0:=by have:=niff_eqb.1 h; exact this
   refine Wp.brnF (niff_ltb.2 (by show (I.of .i64 1).val ≤ (i6 (k + 1)).val; rw [a0V (by omega),show (I.of .i64 1).val = 1 from rfl]; omega)) ?_
   refine Wp.brnF (niff_ltb.2 (by show (i6 (k + 1)).val ≤ (I.of .i64 4).val; rw [a0V (by omega),show (I.of .i64 4).val = 4 from rfl]; omega)) ?_
   exact hj _ ⟨ha,rfl⟩
noncomputable def f7M (l:List Ac) (a:I .u64):I .i64 × List Ac :=
 if a.val = 0 then (I.of .i64 2,l)
 else if (I.add (c3P l a).2.2.1 (I.of .u64 1)).val = 0 then (I.of .i64 4,l)
 else (I.of .i64 0,f5R l ((c3P l a).1,((c3P l a).2.1,(I.add (c3P l a).2.2.1 (I.of .u64 1),(c3P l a).2.2.2))))
theorem g6F (v:V4) (l:List Ac) (a:I .u64) (hl:l.length < 1073741824) :
  a3X K0 ((a,()),(lgH v,(l,()))) = some (((f7M l a).1,()),(lgH v,((f7M l a).2,()))):=by
 refine Wp.out (T:=fun o=>o = some (((f7M l a).1,()),(lgH v,((f7M l a).2,())))) ?_
 unfold a3X f7M
 refine Wp.brn (fun h=>?_) (fun h=>?_)
 ·
  rw [if_pos (by have:=iff_eqb.1 h; exact this)]
  rfl
 ·
  rw [if_neg (by have:=niff_eqb.1 h; exact this)]
  refine Wp.optF (d8Q l (lgH v).2 a (by omega)) ?_
  refine Wp.brn (fun h=>?_) (fun h=>?_)
  ·
   rw [if_pos (by have:=iff_eqb.1 h; exact this)]
   rfl
  ·
   rw [if_neg (by have:=niff_eqb.1 h; exact this)]
   exact Wp.optF (put_eq l (lgH v) ((c3P l a).1,((c3P l a).2.1,(I.add (c3P l a).2.2.1 (I.of .u64 1),(c3P l a).2.2.2))) hl) rfl
noncomputable def e2W (l:List Ac) (a:I .u64) (n:U):I .i64 × List Ac :=
 if a.val = 0 then (I.of .i64 2,l) else (if b1Q l a n = true then I.of .i64 0 else I.of .i64 10,c1Q l a n)
theorem g4V (v:V4) (l:List Ac) (a:I .u64) (n:U) (hl:l.length < 1073741824) :
  a5O K0 ((a,(n,())),(lgH v,(l,()))) = some (((e2W l a n).1,()),(lgH v,((e2W l a n).2,()))):=by
 refine Wp.out (T:=fun o=>o = some (((e2W l a n).1,()),(lgH v,((e2W l a n).2,())))) ?_
 unfold a5O e2W
 refine Wp.brn (fun h=>?_) (fun h=>?_)
 ·
  rw [if_pos (by have:=iff_eqb.1 h; exact this)]
  rfl
 ·
  rw [if_neg (by have:=niff_eqb.1 h; exact this)]
  refine Wp.optF (d6D l (lgH v) a n hl) ?_
  refine Wp.brn (fun h=>?_) (fun h=>?_)
  ·
   have h:b1Q l a n = false:=by revert h; show a3I (b1Q l a n) = true→_; cases b1Q l a n <;> simp [a3I]
   rw [if_neg (by rw [h]; decide)]
   rfl
  ·
   have h:b1Q l a n = true:=by revert h; show a3I (b1Q l a n) = false→_; cases b1Q l a n <;> simp [a3I]
   rw [if_pos h]
   rfl
noncomputable def f4S (l:List Ac) (a b:I .u64) (n:U):I .i64 × List Ac :=
 if a.val = 0 ∨ b.val = 0 then (I.of .i64 2,l)
 else if b1Q l a n = true then (I.of .i64 0,c8B (c1Q l a n) b n) else (I.of .i64 10,c1Q l a n)
theorem g3D (v:V4) (l:List Ac) (a b:I .u64) (n:U) (hl:l.length < 1073741823) :
  a5P K0 ((a,(b,(n,()))),(lgH v,(l,()))) = some (((f4S l a b n).1,()),(lgH v,((f4S l a b n).2,()))):=by
 refine Wp.out (T:=fun o=>o = some (((f4S l a b n).1,()),(lgH v,((f4S l a b n).2,())))) ?_
 unfold a5P f4S
 refine Wp.jn (fun x=>(a.val ≠ 0∧b.val ≠ 0)∧x = ((a,(b,())),(lgH v,(l,(n,()))))) ?_ ?_
 ·
  rintro x ⟨⟨ha,hb⟩,rfl⟩
  rw [if_neg (by omega)]
  refine Wp.optF (d6D l (lgH v) a n (by omega)) ?_
  refine Wp.brn (fun h=>?_) (fun h=>?_)
  ·
   have h:b1Q l a n = false:=by revert h; show a3I (b1Q l a n) = true→_; cases b1Q l a n <;> simp [a3I]
   rw [if_neg (by rw [h]; decide)]
   rfl
  ·
   have h:b1Q l a n = true:=by revert h; show a3I (b1Q l a n) = false→_; cases b1Q l a n <;> simp [a3I]
   rw [if_pos h]
   exact Wp.optF (d8J (c1Q l a n) (lgH v) b n (by have:=c1H l a n; omega)) rfl
 ·
  intro j hj
  refine Wp.brn (fun h=>?_) (fun h=>?_)
  ·
   rw [if_pos (.inl (by have:=iff_eqb.1 h; exact this))]
   rfl
  ·
   have ha:a.val ≠ 0:=by have:=niff_eqb.1 h; exact this
   refine Wp.brn (fun h=>?_) (fun h=>?_)
   ·
    rw [if_pos (.inr (by have:=iff_eqb.1 h; exact this))]
    rfl
   ·
    exact hj _ ⟨⟨ha,by have:=niff_eqb.1 h; exact this⟩,rfl⟩
end Sym

/- The fees: the whole charge; both programs answer alike. -/
namespace Sym
open Go
def chg (g:I .u64 × I .u64 × I .i64) (lim ex:I .u64) (tip:U):CH :=
 (g.1,g.2.1,I.of .u64 (g1U lim ex g.2.1:Int),I.of .u64 ((g.2.1.nat + g1U lim ex g.2.1:Nat):Int),decide (g1U lim ex g.2.1 < ex.nat),tip,zU,zU,zU,zU,())
def e8C (data:List B8) (lim:I .u64) (cap base unit:U) (p:Prm):I .u64 × I .u64 × I .i64 :=
 if a7R p = false then (I.of .u64 0,I.of .u64 0,I.of .i64 15)
 else if base.val = 0 then (I.of .u64 0,I.of .u64 0,I.of .i64 5)
 else if cap.val < base.val then (I.of .u64 0,I.of .u64 0,I.of .i64 12)
 else g9C data lim base unit p.2.2.2.2.2.2.2.2.2.2.1 p.2.2.2.2.2.2.2.2.2.2.2.1
def g5F (data:List B8) (lim ex:I .u64) (cap tip base unit:U) (p:Prm):CH × I .i64 :=
 if I.neb (e8C data lim cap base unit p).2.2 (I.of .i64 0) = true then (zCH,(e8C data lim cap base unit p).2.2)
 else g5V (chg (e8C data lim cap base unit p) lim ex (U.of (min tip.val (cap.val - base.val)))) base p.2.2.2.2.2.1 p.2.2.2.2.2.2.1
theorem e2R {p:Prm} (h:a7R p = true):p.2.2.2.2.2.2.1.nat ≤ 10000:=by
 rw [c8F] at h
 have h7:=of_decide_eq_true (h 7 (by omega) (by omega))
 replace h7:(I.of .u64 0).nat ≤ (d2K p.2.2.2.2.2.2.1).val∧(d2K p.2.2.2.2.2.2.1).val ≤ (I.of .u64 10000).nat:=h7
 rw [c5B] at h7
 have e2:(I.of .u64 10000).nat = 10000:=rfl
 rw [e2] at h7
 exact h7.2
theorem g2V {n:Nat} (h:n < 18446744073709551616):n < 65536 ^ 64:=Nat.lt_trans h (by decide)
theorem g3S {n:Nat} (h:n < 20000 * (U.top * 18446744073709551616)):n < 65536 ^ 64:=Nat.lt_trans h (by decide)
theorem bigB' {n:Nat} (h:n < U.top * 18446744073709551616):n < 65536 ^ 64:=Nat.lt_trans h (by decide)
theorem g6M (a:U) {x:Nat} (hx:x < 18446744073709551616):a.val * x < U.top * 18446744073709551616:=by
 have h1:a.val * x ≤ a.val * 18446744073709551616:=Nat.mul_le_mul_left _ (Nat.le_of_lt hx)
 have h2:a.val * 18446744073709551616 < U.top * 18446744073709551616:=Nat.mul_lt_mul_of_pos_right a.lt (by decide)
 omega
theorem e8F (m n:Nat):I.ltb (c0Z m n) (I.of .i64 0) = decide (m < n):=by
 unfold c0Z
 by_cases h:m < n
 ·
  rw [if_pos h,decide_eq_true h]; rfl
 ·
  rw [if_neg h,decide_eq_false h]; split <;> rfl
theorem f1E (m n:Nat):I.ltb (I.of .i64 0) (c0Z m n) = decide (n < m):=by
 unfold c0Z
 by_cases h:m < n
 ·
  rw [if_pos h,decide_eq_false (by omega)]; rfl
 ·
  rw [if_neg h]
  by_cases h2:n < m
  ·
   rw [if_pos h2,decide_eq_true h2]; rfl
  ·
   rw [if_neg h2,decide_eq_false h2]; rfl
theorem f0M (f1 f2 f3 lim ex:I .u64) (data:List B8) (v cap tip base unit:U) (p:Prm) (hd:data.length ≤ 100000000) :
  b4H K0 (((f1,f2,f3,v,lim,cap,tip,ex,data,()),base,unit,p,()),()) = some (((e8C data lim cap base unit p).1,(e8C data lim cap base unit p).2.1,(e8C data lim cap base unit p).2.2,()),()):=by
 generalize hg:e8C data lim cap base unit p = R
 refine Wp.out (T:=fun o=>o = some ((R.1,R.2.1,R.2.2,()),())) ?_
 unfold e8C at hg
 unfold b4H
 refine Wp.optF (b6B p) ?_
 refine Wp.brn (fun h=>?_) (fun h=>?_)
 ·
  have h:a7R p = false:=b3F h
  rw [if_pos h] at hg
  rw [← hg]; rfl
 have hv:a7R p = true:=b3D h
 rw [if_neg (show ¬ a7R p = false by rw [hv]; simp)] at hg
 refine Wp.optF (c1E base) ?_
 refine Wp.brn (fun h=>?_) (fun h=>?_)
 ·
  have h:base.val = 0:=of_decide_eq_true h
  rw [if_pos h] at hg
  rw [← hg]; rfl
 have h0:base.val ≠ 0:=of_decide_eq_false h
 rw [if_neg h0] at hg
 have hcl:=cap.lt
 have hbl:=base.lt
 have hul:=unit.lt
 obtain ⟨l1,e1,b1⟩:=a0X cap
 obtain ⟨l2,e2,b2⟩:=a0X base
 refine Wp.optF e1 (Wp.optF e2 ?_)
 refine Wp.optF (c1M b1 b2 (a6U b1 (b4P (by omega))) (a6U b2 (b4P (by omega)))) ?_
 refine Wp.brn (fun h=>?_) (fun h=>?_)
 ·
  rw [e8F] at h
  rw [if_pos (of_decide_eq_true h)] at hg
  rw [← hg]; rfl
 rw [e8F] at h
 rw [if_neg (of_decide_eq_false h)] at hg
 refine Wp.optF (e9G data _ _ hd) ?_
 unfold g9C at hg
 generalize c3K data p.2.2.2.2.2.2.2.2.2.2.1 p.2.2.2.2.2.2.2.2.2.2.2.1 = u at hg ⊢
 refine Wp.brn (fun h=>?_) (fun h=>?_)
 ·
  have h:I.neb u.2 (I.of .i64 0) = true:=h
  rw [if_pos h] at hg
  rw [← hg]; rfl
 have h:I.neb u.2 (I.of .i64 0) = false:=h
 rw [if_neg (show ¬ I.neb u.2 (I.of .i64 0) = true by rw [h]; simp)] at hg
 obtain ⟨l3,e3,b3⟩:=a1P u.1
 obtain ⟨l4,e4,b4⟩:=a0X unit
 have hu1:=a3V u.1
 have hm:=g6M unit hu1
 rw [Nat.mul_comm] at hm
 refine Wp.optF e3 (Wp.optF e4 ?_)
 obtain ⟨l5,e5,b5⟩:=b2O b3 b4 (a6U b3 (g2V hu1)) (a6U b4 (b4P (by omega)))
 have hl5:=a6U b5 (bigB' hm)
 refine Wp.optF e5 (Wp.optF (c2H b5 (Nat.lt_of_le_of_lt hl5 (by decide))) ?_)
 refine Wp.brn (fun h=>?_) (fun h=>?_)
 ·
  have h:=of_decide_eq_false (b3F h)
  rw [if_pos (by omega)] at hg
  rw [← hg]; rfl
 have h:=of_decide_eq_true (b3D h)
 rw [if_neg (by omega)] at hg
 refine Wp.optF e2 ?_
 obtain ⟨l6,l7,e6,b6,b7⟩:=c4I b5 b2 h0 hl5 (Nat.le_trans (b2.len.2 (Nat.lt_of_lt_of_le base.lt (Nat.le_of_eq top_pow'))) (by decide))
 have hq:u.1.nat * unit.val / base.val < U.top:=Nat.lt_of_le_of_lt (Nat.div_le_self _ _) (by omega)
 generalize u.1.nat * unit.val / base.val = q at hg hq b6 ⊢
 refine Wp.optF e6 ?_
 obtain ⟨l8,e8,b8⟩:=a1P lim
 have hlim:=a3V lim
 refine Wp.optF e8 ?_
 refine Wp.optF (c1M b6 b8 (a6U b6 (b4P (by omega))) (a6U b8 (g2V (by omega)))) ?_
 refine Wp.brn (fun h=>?_) (fun h=>?_)
 ·
  rw [f1E] at h
  rw [if_pos (of_decide_eq_true h)] at hg
  rw [← hg]; rfl
 rw [f1E] at h
 have h:=of_decide_eq_false h
 rw [if_neg h] at hg
 refine Wp.optF (a3B b6 hq) ?_
 rw [← hg]
 show some ((u.1,(U.of q).1,I.of .i64 0,()),()) = _
 rw [g8Q (by omega)]
theorem e0W (f1 f2 f3 lim ex:I .u64) (data:List B8) (v cap tip base unit:U) (p:Prm) (hd:data.length ≤ 100000000) :
  a9T K0 (((f1,f2,f3,v,lim,cap,tip,ex,data,()),base,unit,p,()),()) = some (((g5F data lim ex cap tip base unit p).1,(g5F data lim ex cap tip base unit p).2,()),()):=by
 generalize hg:g5F data lim ex cap tip base unit p = R
 refine Wp.out (T:=fun o=>o = some ((R.1,R.2,()),())) ?_
 unfold g5F at hg
 unfold a9T
 refine Wp.optF (f0M f1 f2 f3 lim ex data v cap tip base unit p hd) ?_
 have hprem:I.neb (e8C data lim cap base unit p).2.2 (I.of .i64 0) = false→a7R p = true∧base.val ≤ cap.val∧(e8C data lim cap base unit p).2.1.nat ≤ lim.nat:=by
  intro h
  unfold e8C g9C at h ⊢
  split at h
  ·
   exact absurd h (by decide)
  ·
   rename_i hv
   rw [if_neg hv]
   split at h
   ·
    exact absurd h (by decide)
   ·
    rename_i h0
    rw [if_neg h0]
    split at h
    ·
     exact absurd h (by decide)
    ·
     rename_i hc
     rw [if_neg hc]
     split at h
     ·
      rename_i hu
      exact absurd (h.symm.trans hu) (by decide)
     ·
      rename_i hu
      rw [if_neg hu]
      split at h
      ·
       exact absurd h (by decide)
      ·
       rename_i ht
       rw [if_neg ht]
       split at h
       ·
        exact absurd h (by decide)
       ·
        rename_i hq
        rw [if_neg hq]
        refine ⟨by simpa using hv,Nat.le_of_not_lt hc,?_⟩
        have:=a3V lim
        show (I.of .u64 (_:Int)).nat ≤ _
        rw [b9F (by omega)]
        omega
 generalize e8C data lim cap base unit p = g at hg hprem ⊢
 obtain ⟨u,po,er⟩:=g
 refine Wp.brn (fun h=>?_) (fun h=>?_)
 ·
  have h:I.neb er (I.of .i64 0) = true:=h
  rw [if_pos h] at hg
  rw [← hg]; rfl
 have h:I.neb er (I.of .i64 0) = false:=h
 obtain ⟨hv,hc,hpo⟩:=hprem h
 simp only at hpo
 rw [if_neg (show ¬ I.neb ((u,po,er):I .u64 × I .u64 × I .i64).2.2 (I.of .i64 0) = true by rw [show I.neb ((u,po,er):I .u64 × I .u64 × I .i64).2.2 (I.of .i64 0) = false from h]; simp)] at hg
 have hb:=e2R hv
 have hlim:=a3V lim
 have hex:=a3V ex
 have hcl:=cap.lt
 have hbl:=base.lt
 have htl:=tip.lt
 obtain ⟨E,hE⟩:∃ E,E = g1U lim ex po:=⟨_,rfl⟩
 have hEl:E ≤ lim.nat - po.nat:=by rw [hE]; unfold g1U; omega
 have hEn:(I.of .u64 (E:Int)).nat = E:=b9F (by omega)
 refine Wp.jn (fun x=>x = ((po,()),((f1,f2,f3,v,lim,cap,tip,ex,data,()),base,p,zCH,(u,po,I.of .u64 (E:Int),I.of .u64 0,decide (E < ex.nat),zU,zU,zU,zU,zU,()),()))) ?_ ?_
 ·
  rintro x rfl
  unfold g5V chg at hg
  simp only at hg
  rw [← hE] at hg
  rw [hEn,b9F (n:=po.nat + E) (by omega)] at hg
  obtain ⟨l2,e2,b2⟩:=a0X base
  obtain ⟨l3,e3,b3⟩:=f7I f1 f2 f3 lim ex data v cap tip base hc
  obtain ⟨l4,e4,b4⟩:=a1P po
  have hpo64:=a3V po
  have hl2:=a6U b2 (b4P (by omega))
  have hl4:=a6U b4 (g2V hpo64)
  have hm1:=g6M base hpo64
  refine Wp.optF e2 (Wp.optF e3 (Wp.optF e4 ?_))
  obtain ⟨l5,e5,b5⟩:=b2O b2 b4 hl2 hl4
  have hl5:=a6U b5 (bigB' hm1)
  refine Wp.optF e5 ?_
  obtain ⟨l6,e6,b6⟩:=a1P (I.of .u64 (E:Int))
  rw [hEn] at b6
  have hE64:E < 18446744073709551616:=by omega
  have hl6:=a6U b6 (g2V hE64)
  refine Wp.optF e6 ?_
  obtain ⟨l7,e7,b7⟩:=b2O b2 b6 hl2 hl6
  have hm2:=g6M base hE64
  have hl7:=a6U b7 (bigB' hm2)
  refine Wp.optF e7 ?_
  obtain ⟨l8,e8,b8⟩:=a0X p.2.2.2.2.2.1
  have hil:=U.lt p.2.2.2.2.2.1
  have hl8:=a6U b8 (b4P (by omega))
  refine Wp.optF e8 ?_
  obtain ⟨l9,e9,b9⟩:=f1G b8 b2 hl8 hl2
  have hl9:=a6U b9 (b4P (by omega))
  refine Wp.optF e9 (Wp.optF e6 ?_)
  obtain ⟨l11,e11,b11⟩:=b2O b9 b6 hl9 hl6
  have hinf:min (U.val p.2.2.2.2.2.1) base.val * E ≤ base.val * E:=Nat.mul_le_mul_right _ (Nat.min_le_right _ _)
  refine Wp.optF e11 ?_
  obtain ⟨l12,e12,b12⟩:=c6H b7 b11 hinf hl7
  have hl12:=a6U b12 (g3S (by omega))
  have hnet:base.val * E - min (U.val p.2.2.2.2.2.1) base.val * E = f8L base p.2.2.2.2.2.1 E:=rfl
  rw [hnet] at b12
  refine Wp.optF e12 ?_
  obtain ⟨l13,e13,b13⟩:=a1P p.2.2.2.2.2.2.1
  have hl13:=a6U b13 (g2V (by omega))
  refine Wp.optF e13 ?_
  obtain ⟨l14,e14,b14⟩:=b2O b12 b13 hl12 hl13
  have hm3:f8L base p.2.2.2.2.2.1 E * p.2.2.2.2.2.2.1.nat ≤ f8L base p.2.2.2.2.2.1 E * 10000:=Nat.mul_le_mul_left _ hb
  have hl14:=a6U b14 (g3S (by omega))
  refine Wp.optF e14 ?_
  obtain ⟨l15,e15,b15⟩:=a1P (I.of .u64 10000)
  have e10k:(I.of .u64 10000).nat = 10000:=rfl
  rw [e10k] at b15
  refine Wp.optF e15 ?_
  obtain ⟨l16,l16',e16,b16,_⟩:=c4I b14 b15 (by decide) hl14 (Nat.le_trans ((IsB.len b15 (k:=1)).2 (by decide)) (by decide))
  have hburn:f8L base p.2.2.2.2.2.1 E * p.2.2.2.2.2.2.1.nat / 10000 = e8K base p.2.2.2.2.2.1 p.2.2.2.2.2.2.1 E:=rfl
  rw [hburn] at b16
  have hbl2:e8K base p.2.2.2.2.2.1 p.2.2.2.2.2.2.1 E ≤ f8L base p.2.2.2.2.2.1 E:=f5X _ _ hb
  refine Wp.optF e16 ?_
  obtain ⟨l17,e17,b17⟩:=c6H b12 b16 hbl2 hl12
  refine Wp.optF e17 ?_
  have eadd:I.add po (I.of .u64 (E:Int)) = I.of .u64 ((po.nat + E:Nat):Int):=by
   apply e2K
   rw [c4U _ _ (by omega),hEn,b9F (by omega)]
  obtain ⟨l18,e18,b18⟩:=a1P (I.add po (I.of .u64 (E:Int)))
  rw [c4U _ _ (by omega),hEn] at b18
  refine Wp.optF e18 ?_
  have hl18:=a6U b18 (g2V (by omega))
  have hl3:=a6U b3 (b4P (by omega))
  obtain ⟨l19,e19,b19⟩:=b2O b3 b18 hl3 hl18
  have hm4:min tip.val (cap.val - base.val) * (po.nat + E) ≤ cap.val * (po.nat + E):=Nat.mul_le_mul_right _ (by omega)
  have hm5:=g6M cap (x:=po.nat + E) (by omega)
  have hl19:=a6U b19 (g3S (by omega))
  refine Wp.optF e19 ?_
  obtain ⟨l20,e20,b20⟩:=a9P b17 b19 (a6U b17 (g3S (by omega))) hl19
  have hrest:f8L base p.2.2.2.2.2.1 E - e8K base p.2.2.2.2.2.1 p.2.2.2.2.2.2.1 E + min tip.val (cap.val - base.val) * (po.nat + E) = f4C base p.2.2.2.2.2.1 (U.of (min tip.val (cap.val - base.val))) p.2.2.2.2.2.2.1 E (po.nat + E):=by
   unfold f4C
   rw [U.val_of (by omega)]
  have hl20:=a6U b20 (g3S (by omega))
  rw [hrest] at b20
  refine Wp.optF e20 (Wp.jnZ ?_)
  refine Wp.optF (c2H b5 (Nat.lt_of_le_of_lt hl5 (by decide))) ?_
  refine Wp.brn (fun h=>?_) (fun h=>?_)
  ·
   have h:=of_decide_eq_false (b3F h)
   rw [if_pos (.inl (by omega))] at hg
   rw [← hg]; rfl
  have h1:=of_decide_eq_true (b3D h)
  refine Wp.optF (c2H b7 (Nat.lt_of_le_of_lt hl7 (by decide))) ?_
  refine Wp.brn (fun h=>?_) (fun h=>?_)
  ·
   have h:=of_decide_eq_false (b3F h)
   rw [if_pos (.inr (.inl (by omega)))] at hg
   rw [← hg]; rfl
  have h2:=of_decide_eq_true (b3D h)
  refine Wp.optF (c2H b20 (Nat.lt_of_le_of_lt hl20 (by decide))) ?_
  refine Wp.brn (fun h=>?_) (fun h=>?_)
  ·
   have h:=of_decide_eq_false (b3F h)
   rw [if_pos (.inr (.inr (by omega)))] at hg
   rw [← hg]; rfl
  have h3:=of_decide_eq_true (b3D h)
  rw [if_neg (by rintro (h | h | h) <;> omega)] at hg
  refine Wp.optF (a3B b3 (by omega)) (Wp.optF (a3B b5 h1) (Wp.optF (a3B b11 (by omega)) (Wp.optF (a3B b16 (by omega)) (Wp.optF (a3B b20 h3) ?_))))
  rw [← hg,← eadd]
  rfl
 ·
  intro j hj
  have es:(I.sub lim po).nat = lim.nat - po.nat:=e7R _ _ hpo
  refine Wp.brn (fun h=>?_) (fun h=>?_)
  ·
   rw [c2P] at h
   have h:(I.sub lim po).nat < ex.nat:=of_decide_eq_true h
   rw [es] at h
   have hEe:E = lim.nat - po.nat:=by rw [hE]; unfold g1U; omega
   have e1:I.sub lim po = I.of .u64 (E:Int):=e2K (by rw [es,hEn,hEe])
   refine hj _ ?_
   rw [show decide (E < ex.nat) = true from decide_eq_true (by omega),← e1]
   rfl
  ·
   rw [c2P] at h
   have h:¬ (I.sub lim po).nat < ex.nat:=of_decide_eq_false h
   rw [es] at h
   have hEe:E = ex.nat:=by rw [hE]; unfold g1U; omega
   have e1:ex = I.of .u64 (E:Int):=e2K (by rw [hEn,hEe])
   refine hj _ ?_
   rw [show decide (E < ex.nat) = false from decide_eq_false (by omega),← e1]
   rfl
end Sym

/- The fees: what is built, what a charge without an error is. -/
namespace Sym
open Go
end Sym

/- The laws of the fees. -/
namespace Sym
open Go
end Sym
