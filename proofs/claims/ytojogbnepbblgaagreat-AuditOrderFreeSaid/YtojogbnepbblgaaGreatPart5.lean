/- Natural numbers by digits of 65536: from and to 256 bits, comparison. -/
import Derived.Test.YtojogbnepbblgaaGreatPart4
import Derived.Test.YtojogbnepbblgaaGreatPart3
namespace Sym
open Go
theorem e4B (k:IntKind) (hk:k.bits = 64) (x:I k) (h:0 ≤ x.val) (hx:x.val < 18446744073709551616):((BitVec.ofInt k.bits x.val &&& BitVec.ofInt k.bits 65535).toNat:Int) = x.val % 65536:=by
 rw [hk,BitVec.toNat_and]
 have h1:(BitVec.ofInt 64 65535).toNat = 2 ^ 16 - 1:=rfl
 rw [h1,Nat.and_two_pow_sub_one_eq_mod,BitVec.toNat_ofInt]
 omega
theorem f9V (x:I .u64):(I.and x (I.of .u64 65535)).val = x.val % 65536:=by
 have h:=a6I x
 have:=e4B .u64 rfl x h.1 h.2
 have e:(I.of .u64 65535).val = 65535:=rfl
 show (I.of .u64 _).val = _
 rw [e,this]
 exact b9B ⟨by omega,by omega⟩
theorem e2Y (x:I .i64) (h:0 ≤ x.val):(I.and x (I.of .i64 65535)).val = x.val % 65536:=by
 have h2:=b4W x
 have:=e4B .i64 rfl x h (by omega)
 have e:(I.of .i64 65535).val = 65535:=rfl
 show (I.of .i64 _).val = _
 rw [e,this]
 exact b7M ⟨by omega,by omega⟩
theorem d6X (a:Int) (n:Nat) (h:0 ≤ a):a.fdiv ((2:Int) ^ n) = a / (2:Int) ^ n:=by
 have h2:(0:Int) ≤ (2:Int) ^ n:=Int.le_of_lt (Int.pow_pos (by decide))
 rw [Int.fdiv_eq_ediv_of_nonneg _ h2]
theorem f1K (x s:I .u64) (hs:s.val < 64):(I.shr x s).val = x.val / (2:Int) ^ s.val.toNat:=by
 have hx:=a6I x
 have h0:=a6I s
 have hm:min s.val.toNat IntKind.u64.bits = s.val.toNat:=by
  have:IntKind.u64.bits = 64:=rfl
  omega
 unfold I.shr
 rw [hm,d6X _ _ hx.1]
 have h2:(0:Int) < (2:Int) ^ s.val.toNat:=Int.pow_pos (by decide)
 have h3:0 ≤ x.val / (2:Int) ^ s.val.toNat:=Int.ediv_nonneg hx.1 (by omega)
 have h4:x.val / (2:Int) ^ s.val.toNat ≤ x.val:=Int.ediv_le_self _ hx.1
 exact b9B ⟨by omega,by omega⟩
theorem c8M (x:I .i64) (h:0 ≤ x.val):(I.shr x (I.of .u64 16)).val = x.val / 65536:=by
 have hx:=b4W x
 have hm:min (I.of .u64 16).val.toNat IntKind.i64.bits = 16:=rfl
 unfold I.shr
 rw [hm,d6X _ _ h]
 have e:(2:Int) ^ 16 = 65536:=by decide
 rw [e]
 exact b7M ⟨by omega,by omega⟩
def f3R (a:U) (j:Nat):Dg:=I.conv .i64 (I.and (I.shr (Arr.sel (I.of .u64 0) 4 a (j / 4)) (I.of .u64 (16 * (j % 4):Nat))) (I.of .u64 65535))
theorem e4C (a:U) (j:Nat):(f3R a j).val = (Arr.sel (I.of .u64 0) 4 a (j / 4)).val / (2:Int) ^ (16 * (j % 4)) % 65536:=by
 have h1:(I.of .u64 (16 * (j % 4):Nat)).val = (16 * (j % 4):Nat):=b9B ⟨by omega,by omega⟩
 have h2:=f1K (Arr.sel (I.of .u64 0) 4 a (j / 4)) (I.of .u64 (16 * (j % 4):Nat)) (by omega)
 rw [h1,Int.toNat_natCast] at h2
 unfold f3R
 show (I.of .i64 _).val = _
 rw [f9V,h2]
 exact b7M ⟨by omega,by omega⟩
theorem f0Z (a:U) (j:Nat):DigOk (f3R a j):=by
 unfold DigOk
 rw [e4C]
 omega
theorem limb (x:I .u64) (d0 d1 d2 d3:Nat) (h0:(d0:Int) = x.val / (2:Int) ^ 0 % 65536) (h1:(d1:Int) = x.val / (2:Int) ^ 16 % 65536) (h2:(d2:Int) = x.val / (2:Int) ^ 32 % 65536) (h3:(d3:Int) = x.val / (2:Int) ^ 48 % 65536) :
  x.nat = d0 + 65536 * d1 + 4294967296 * d2 + 281474976710656 * d3:=by
 have p0:(2:Int) ^ 0 = 1:=by decide
 have p1:(2:Int) ^ 16 = 65536:=by decide
 have p2:(2:Int) ^ 32 = 4294967296:=by decide
 have p3:(2:Int) ^ 48 = 281474976710656:=by decide
 rw [p0] at h0
 rw [p1] at h1
 rw [p2] at h2
 rw [p3] at h3
 have hx:=a6I x
 have hn:=a2A x
 omega
theorem h3C (a0 a1 a2 a3 d0 d1 d2 d3 d4 d5 d6 d7 d8 d9 d10 d11 d12 d13 d14 d15:Nat) (v0:a0 = d0 + 65536 * d1 + 4294967296 * d2 + 281474976710656 * d3) (v1:a1 = d4 + 65536 * d5 + 4294967296 * d6 + 281474976710656 * d7)
  (v2:a2 = d8 + 65536 * d9 + 4294967296 * d10 + 281474976710656 * d11) (v3:a3 = d12 + 65536 * d13 + 4294967296 * d14 + 281474976710656 * d15) :
  d0 + 65536 * (d1 + 65536 * (d2 + 65536 * (d3 + 65536 * (d4 + 65536 * (d5 + 65536 * (d6 + 65536 * (d7 + 65536 * (d8 + 65536 * (d9 + 65536 * (d10 + 65536 * (d11 + 65536 * (d12 + 65536 * (d13 + 65536 * (d14 + 65536 * (d15 + 65536 * 0))))))))))))))) =
   a0 + 18446744073709551616 * (a1 + 18446744073709551616 * (a2 + 18446744073709551616 * a3)):=by
 subst v0 v1 v2 v3
 omega
theorem e9N (a:U):bv ((List.range 16).map (f3R a)) = a.val:=by
 obtain ⟨a0,a1,a2,a3,⟨⟩⟩:=a
 have n:∀ j,((f3R (a0,a1,a2,a3,()) j).nat:Int) = (Arr.sel (I.of .u64 0) 4 (a0,a1,a2,a3,()) (j / 4)).val / (2:Int) ^ (16 * (j % 4)) % 65536:=fun j=>(f0Z _ j).nat.1.trans (e4C _ j)
 exact h3C _ _ _ _ _ _ _ _ _ _ _ _ _ _ _ _ _ _ _ _ (limb a0 _ _ _ _ (n 0) (n 1) (n 2) (n 3)) (limb a1 _ _ _ _ (n 4) (n 5) (n 6) (n 7)) (limb a2 _ _ _ _ (n 8) (n 9) (n 10) (n 11)) (limb a3 _ _ _ _ (n 12) (n 13) (n 14) (n 15))
theorem a1E (a:U):∃ r,a0C K0 ((a,()),()) = some ((r,()),())∧IsB r a.val:=by
 have key:Wp (fun o=>∃ r,o = some ((r,()),())∧IsB r a.val) (a0C K0 ((a,()),())):=by
  have c16:(I.of .i64 16).val = 16:=rfl
  have c4:(I.of .i64 4).val = 4:=rfl
  have c1:(I.of .i64 1).val = 1:=rfl
  unfold a0C
  refine Wp.iter (fun x=>0 ≤ x.1.1.val∧x.1.1.val ≤ 16∧x.2.1 = a∧x.2.2.1 = (List.range x.1.1.val.toNat).map (f3R a) ++ List.replicate (16 - x.1.1.val.toNat) (I.of .i64 0)) (fun x=>(16 - x.1.1.val).toNat) ?_ ?_ ?_
  ·
   rintro ⟨⟨i,⟨⟩⟩,a',out,⟨⟩⟩ ⟨hi0,hi1,e1,e2⟩
   simp only at hi0 hi1 e1 e2
   subst e1
   refine Wp.brn (fun h=>?_) (fun h=>?_)
   ·
    have h:=iff_ltb.1 h
    simp only [c16] at h
    have hq:(I.quo i (I.of .i64 4)).val = i.val / 4:=b9M hi0 (by decide)
    have hr:(I.rem i (I.of .i64 4)).val = i.val % 4:=b7H hi0 (by decide)
    have hlen:out.length = 16:=by rw [e2]; simp; omega
    have hs:(I.add i (I.of .i64 1)).val = i.val + 1:=by rw [a5N (by omega)]; omega
    have hm:(I.mul (I.of .i64 16) (I.rem i (I.of .i64 4))).val = 16 * (i.val % 4):=by rw [c4O (by rw [c16,hr]; omega),hr,c16]
    refine Wp.brnT (iff_inB.2 ⟨by show 0 ≤ (I.quo i (I.of .i64 4)).val; omega,by show (I.quo i (I.of .i64 4)).val < ((4:Nat):Int); omega⟩) ?_
    refine Wp.brnT (c3E _) ?_
    refine Wp.brnT (iff_inB.2 ⟨hi0,by show i.val < ((out.length:Nat):Int); omega⟩) ?_
    refine Wp.again ⟨?_,?_,rfl,?_⟩ ?_
    ·
     show 0 ≤ (I.add i (I.of .i64 1)).val; omega
    ·
     show (I.add i (I.of .i64 1)).val ≤ 16; omega
    ·
     have ed:I.conv .i64 (I.and (I.shr (Arr.sel (I.of .u64 0) 4 a' (I.nat (I.quo i (I.of .i64 4)))) (I.conv .u64 (I.mul (I.of .i64 16) (I.rem i (I.of .i64 4))))) (I.of .u64 65535)) = f3R a' i.val.toNat:=by
      unfold f3R
      have e1:I.nat (I.quo i (I.of .i64 4)) = i.val.toNat / 4:=by unfold I.nat; omega
      have e2:I.conv .u64 (I.mul (I.of .i64 16) (I.rem i (I.of .i64 4))) = I.of .u64 (16 * (i.val.toNat % 4):Nat):=by
       show I.of .u64 _ = _
       rw [hm]
       congr 1
       omega
      rw [e1,e2]
     show setAt out (I.nat i) _ = (List.range (I.add i (I.of .i64 1)).val.toNat).map (f3R a') ++ List.replicate (16 - (I.add i (I.of .i64 1)).val.toNat) (I.of .i64 0)
     have e3:(I.add i (I.of .i64 1)).val.toNat = i.val.toNat + 1:=by omega
     have e4:I.nat i = ((List.range i.val.toNat).map (f3R a')).length:=by simp [I.nat]
     have e5:16 - i.val.toNat = (16 - (i.val.toNat + 1)) + 1:=by omega
     rw [a6Q,e2,e3,e4,List.set_append_right _ _ (Nat.le_refl _),Nat.sub_self,e5,List.replicate_succ,List.set_cons_zero,List.range_succ,List.map_append,List.map_cons,List.map_nil,List.append_assoc]
     show _ ++ _ = _ ++ ([_] ++ _)
     rw [← ed]
     rfl
    ·
     show (16 - (I.add i (I.of .i64 1)).val).toNat < _
     simp only; omega
   ·
    have h:=niff_ltb.1 h
    simp only [c16] at h
    have hi:i.val.toNat = 16:=by omega
    rw [hi] at e2
    simp only [Nat.sub_self,List.replicate_zero,List.append_nil] at e2
    subst e2
    have hd:c0J ((List.range 16).map (f3R a')):=by
     intro d hd
     rw [List.mem_map] at hd
     obtain ⟨j,_,rfl⟩:=hd
     exact f0Z a' j
    obtain ⟨r,hr,hB⟩:=d6W _ hd (by simp)
    exact Wp.done (Wp.optF hr ⟨r,rfl,hB.dig,hB.lead,hB.val.trans (e9N a')⟩)
  ·
   exact ⟨by show 0 ≤ (I.of .i64 0).val; decide,by show (I.of .i64 0).val ≤ 16; decide,rfl,rfl⟩
  ·
   exact b8C _ (by show (16 - (I.of .i64 0).val).toNat < _; decide)
 exact key.out
end Sym

/- Natural numbers by digits of 65536: to 256 bits, comparison. -/
namespace Sym
open Go
theorem f9Z (x s:I .u64) (hs:s.val < 64) (h:x.val * (2:Int) ^ s.val.toNat < 18446744073709551616):(I.shl x s).val = x.val * (2:Int) ^ s.val.toNat:=by
 have hx:=a6I x
 have h0:=a6I s
 have hm:min s.val.toNat IntKind.u64.bits = s.val.toNat:=by
  have:IntKind.u64.bits = 64:=rfl
  omega
 have h2:(0:Int) ≤ (2:Int) ^ s.val.toNat:=Int.le_of_lt (Int.pow_pos (by decide))
 unfold I.shl
 rw [hm]
 exact b9B ⟨Int.mul_nonneg hx.1 h2,h⟩
theorem b3O (x:I .u64) (d r S:Nat) (hd:d < 65536) (hr:r < 4) (hS:(S:Int) = (2:Int) ^ (16 * r)) (hx:x.nat < S) (hl:S ≤ 281474976710656):(I.add x (I.shl (I.of .u64 d) (I.of .u64 (16 * r:Nat)))).nat = x.nat + S * d:=by
 have h1:(I.of .u64 (16 * r:Nat)).val = (16 * r:Nat):=b9B ⟨by omega,by omega⟩
 have h2:(I.of .u64 (d:Int)).val = d:=b9B ⟨by omega,by omega⟩
 have hv:=a2A x
 have hdS:(d:Int) * S = ((S * d:Nat):Int):=by rw [Nat.mul_comm,Int.natCast_mul]
 have hle:S * d ≤ 281474976710656 * 65535:=Nat.mul_le_mul hl (by omega)
 have h3:(I.shl (I.of .u64 d) (I.of .u64 (16 * r:Nat))).val = ((S * d:Nat):Int):=by
  rw [f9Z _ _ (by omega) (by rw [h1,h2,Int.toNat_natCast,← hS,hdS]; omega),h1,h2,Int.toNat_natCast,← hS,hdS]
 have h4:=f3D (a:=x) (b:=I.shl (I.of .u64 d) (I.of .u64 (16 * r:Nat))) (by rw [h3]; omega)
 rw [h3] at h4
 have h5:=a2A (I.add x (I.shl (I.of .u64 d) (I.of .u64 (16 * r:Nat))))
 omega
theorem e4E (u:U) (d:Nat) (j:Nat) (hj:j < 16) (hu:u.val < 65536 ^ j) (hd:d < 65536) :
  U.val (Arr.upd 4 u (j / 4) (I.add (Arr.sel (I.of .u64 0) 4 u (j / 4)) (I.shl (I.of .u64 d) (I.of .u64 (16 * (j % 4):Nat))))) = u.val + 65536 ^ j * d:=by
 obtain ⟨u0,u1,u2,u3,⟨⟩⟩:=u
 have n0:=a3I u0
 have n1:=a3I u1
 have n2:=a3I u2
 have n3:=a3I u3
 unfold U.val at hu
 simp only at hu
 have hc:j = 0 ∨ j = 1 ∨ j = 2 ∨ j = 3 ∨ j = 4 ∨ j = 5 ∨ j = 6 ∨ j = 7 ∨ j = 8 ∨ j = 9 ∨ j = 10 ∨ j = 11 ∨ j = 12 ∨ j = 13 ∨ j = 14 ∨ j = 15:=by omega
 rcases hc with rfl | rfl | rfl | rfl | rfl | rfl | rfl | rfl | rfl | rfl | rfl | rfl | rfl | rfl | rfl | rfl
 ·
  have p:65536 ^ 0 = 1:=by decide
  rw [p] at hu ⊢
  have k:=b3O u0 d 0 1 hd (by decide) (by decide) (by omega) (by decide)
  show U.val ((I.add u0 (I.shl (I.of .u64 d) (I.of .u64 (16 * 0:Nat)))),u1,u2,u3,()) = _
  unfold U.val
  simp only
  omega
 ·
  have p:65536 ^ 1 = 65536:=by decide
  rw [p] at hu ⊢
  have k:=b3O u0 d 1 65536 hd (by decide) (by decide) (by omega) (by decide)
  show U.val ((I.add u0 (I.shl (I.of .u64 d) (I.of .u64 (16 * 1:Nat)))),u1,u2,u3,()) = _
  unfold U.val
  simp only
  omega
 ·
  have p:65536 ^ 2 = 4294967296:=by decide
  rw [p] at hu ⊢
  have k:=b3O u0 d 2 4294967296 hd (by decide) (by decide) (by omega) (by decide)
  show U.val ((I.add u0 (I.shl (I.of .u64 d) (I.of .u64 (16 * 2:Nat)))),u1,u2,u3,()) = _
  unfold U.val
  simp only
  omega
 ·
  have p:65536 ^ 3 = 281474976710656:=by decide
  rw [p] at hu ⊢
  have k:=b3O u0 d 3 281474976710656 hd (by decide) (by decide) (by omega) (by decide)
  show U.val ((I.add u0 (I.shl (I.of .u64 d) (I.of .u64 (16 * 3:Nat)))),u1,u2,u3,()) = _
  unfold U.val
  simp only
  omega
 ·
  have p:65536 ^ 4 = 18446744073709551616:=by decide
  rw [p] at hu ⊢
  have k:=b3O u1 d 0 1 hd (by decide) (by decide) (by omega) (by decide)
  show U.val (u0,(I.add u1 (I.shl (I.of .u64 d) (I.of .u64 (16 * 0:Nat)))),u2,u3,()) = _
  unfold U.val
  simp only
  omega
 ·
  have p:65536 ^ 5 = 1208925819614629174706176:=by decide
  rw [p] at hu ⊢
  have k:=b3O u1 d 1 65536 hd (by decide) (by decide) (by omega) (by decide)
  show U.val (u0,(I.add u1 (I.shl (I.of .u64 d) (I.of .u64 (16 * 1:Nat)))),u2,u3,()) = _
  unfold U.val
  simp only
  omega
 ·
  have p:65536 ^ 6 = 79228162514264337593543950336:=by decide
  rw [p] at hu ⊢
  have k:=b3O u1 d 2 4294967296 hd (by decide) (by decide) (by omega) (by decide)
  show U.val (u0,(I.add u1 (I.shl (I.of .u64 d) (I.of .u64 (16 * 2:Nat)))),u2,u3,()) = _
  unfold U.val
  simp only
  omega
 ·
  have p:65536 ^ 7 = 5192296858534827628530496329220096:=by decide
  rw [p] at hu ⊢
  have k:=b3O u1 d 3 281474976710656 hd (by decide) (by decide) (by omega) (by decide)
  show U.val (u0,(I.add u1 (I.shl (I.of .u64 d) (I.of .u64 (16 * 3:Nat)))),u2,u3,()) = _
  unfold U.val
  simp only
  omega
 ·
  have p:65536 ^ 8 = 340282366920938463463374607431768211456:=by decide
  rw [p] at hu ⊢
  have k:=b3O u2 d 0 1 hd (by decide) (by decide) (by omega) (by decide)
  show U.val (u0,u1,(I.add u2 (I.shl (I.of .u64 d) (I.of .u64 (16 * 0:Nat)))),u3,()) = _
  unfold U.val
  simp only
  omega
 ·
  have p:65536 ^ 9 = 22300745198530623141535718272648361505980416:=by decide
  rw [p] at hu ⊢
  have k:=b3O u2 d 1 65536 hd (by decide) (by decide) (by omega) (by decide)
  show U.val (u0,u1,(I.add u2 (I.shl (I.of .u64 d) (I.of .u64 (16 * 1:Nat)))),u3,()) = _
  unfold U.val
  simp only
  omega
 ·
  have p:65536 ^ 10 = 1461501637330902918203684832716283019655932542976:=by decide
  rw [p] at hu ⊢
  have k:=b3O u2 d 2 4294967296 hd (by decide) (by decide) (by omega) (by decide)
  show U.val (u0,u1,(I.add u2 (I.shl (I.of .u64 d) (I.of .u64 (16 * 2:Nat)))),u3,()) = _
  unfold U.val
  simp only
  omega
 ·
  have p:65536 ^ 11 = 95780971304118053647396689196894323976171195136475136:=by decide
  rw [p] at hu ⊢
  have k:=b3O u2 d 3 281474976710656 hd (by decide) (by decide) (by omega) (by decide)
  show U.val (u0,u1,(I.add u2 (I.shl (I.of .u64 d) (I.of .u64 (16 * 3:Nat)))),u3,()) = _
  unfold U.val
  simp only
  omega
 ·
  have p:65536 ^ 12 = 6277101735386680763835789423207666416102355444464034512896:=by decide
  rw [p] at hu ⊢
  have k:=b3O u3 d 0 1 hd (by decide) (by decide) (by omega) (by decide)
  show U.val (u0,u1,u2,(I.add u3 (I.shl (I.of .u64 d) (I.of .u64 (16 * 0:Nat)))),()) = _
  unfold U.val
  simp only
  omega
 ·
  have p:65536 ^ 13 = 411376139330301510538742295639337626245683966408394965837152256:=by decide
  rw [p] at hu ⊢
  have k:=b3O u3 d 1 65536 hd (by decide) (by decide) (by omega) (by decide)
  show U.val (u0,u1,u2,(I.add u3 (I.shl (I.of .u64 d) (I.of .u64 (16 * 1:Nat)))),()) = _
  unfold U.val
  simp only
  omega
 ·
  have p:65536 ^ 14 = 26959946667150639794667015087019630673637144422540572481103610249216:=by decide
  rw [p] at hu ⊢
  have k:=b3O u3 d 2 4294967296 hd (by decide) (by decide) (by omega) (by decide)
  show U.val (u0,u1,u2,(I.add u3 (I.shl (I.of .u64 d) (I.of .u64 (16 * 2:Nat)))),()) = _
  unfold U.val
  simp only
  omega
 ·
  have p:65536 ^ 15 = 1766847064778384329583297500742918515827483896875618958121606201292619776:=by decide
  rw [p] at hu ⊢
  have k:=b3O u3 d 3 281474976710656 hd (by decide) (by decide) (by omega) (by decide)
  show U.val (u0,u1,u2,(I.add u3 (I.shl (I.of .u64 d) (I.of .u64 (16 * 3:Nat)))),()) = _
  unfold U.val
  simp only
  omega
theorem c4G {l:List Dg} {i:Nat} (h:i < l.length):bv (l.take (i + 1)) = bv (l.take i) + 65536 ^ i * (l[i]).nat:=by
 rw [← List.take_append_getElem h,c3I]
 have e:(l.take i).length = i:=by simp; omega
 simp [bv,e]
theorem a2Z {l:List Dg} {n:Nat} (hl:IsB l n) (hn:n < U.top):a0Q K0 ((l,()),()) = some ((U.of n,()),()):=by
 have ht:U.top = 65536 ^ 16:=by decide
 have hlen:l.length ≤ 16:=hl.len.2 (by rw [← ht]; exact hn)
 have c16:(I.of .i64 16).val = 16:=rfl
 have c4:(I.of .i64 4).val = 4:=rfl
 have c1:(I.of .i64 1).val = 1:=rfl
 have hol:(I.ofNat .i64 (a0I l)).val = l.length:=a3H (by show l.length < _; omega)
 have key:Wp (fun o=>o = some ((U.of n,()),())) (a0Q K0 ((l,()),())):=by
  unfold a0Q
  refine Wp.iter (fun x=>x.1.1 = l∧0 ≤ x.1.2.1.val∧x.1.2.1.val ≤ (l.length:Int)∧U.val x.2.2.1 = bv (l.take x.1.2.1.val.toNat)) (fun x=>((l.length:Int) - x.1.2.1.val).toNat) ?_ ?_ ?_
  ·
   rintro ⟨⟨l',i,⟨⟩⟩,r0,u,⟨⟩⟩ ⟨e1,hi0,hi1,hu⟩
   simp only at e1 hi0 hi1 hu
   subst e1
   have fin:i.val.toNat = l'.length→u = U.of n:=by
    intro e
    rw [e,List.take_length,hl.val] at hu
    rw [← hu]
    exact (U.of_val u).symm
   refine Wp.brn (fun h=>?_) (fun h=>?_)
   ·
    have h:=iff_ltb.1 h
    simp only [hol] at h
    have hlt:i.val.toNat < l'.length:=by omega
    refine Wp.brnT (iff_ltb.2 (by show i.val < (I.of .i64 16).val; omega)) ?_
    have hq:(I.quo i (I.of .i64 4)).val = i.val / 4:=b9M hi0 (by decide)
    have hr:(I.rem i (I.of .i64 4)).val = i.val % 4:=b7H hi0 (by decide)
    have hs:(I.add i (I.of .i64 1)).val = i.val + 1:=by rw [a5N (by omega)]; omega
    have hm:(I.mul (I.of .i64 16) (I.rem i (I.of .i64 4))).val = 16 * (i.val % 4):=by rw [c4O (by rw [c16,hr]; omega),hr,c16]
    have hin:inB (I.quo i (I.of .i64 4)) 4 = true:=iff_inB.2 ⟨by omega,by omega⟩
    refine Wp.brnT hin ?_
    refine Wp.brnT (iff_inB.2 ⟨hi0,by show i.val < ((l'.length:Nat):Int); omega⟩) ?_
    refine Wp.brnT (c3E _) ?_
    refine Wp.brnT hin ?_
    have hdig:DigOk l'[i.val.toNat]:=hl.dig _ (List.getElem_mem hlt)
    have hrd:rdL (I.of .i64 0) l' (I.nat i) = l'[i.val.toNat]:=a3X _ _ _ hlt
    have e1:I.nat (I.quo i (I.of .i64 4)) = i.val.toNat / 4:=by unfold I.nat; omega
    have e2:I.conv .u64 (I.mul (I.of .i64 16) (I.rem i (I.of .i64 4))) = I.of .u64 (16 * (i.val.toNat % 4):Nat):=by
     show I.of .u64 _ = _
     rw [hm]
     congr 1
     omega
    have e3:I.conv .u64 (rdL (I.of .i64 0) l' (I.nat i)) = I.of .u64 ((l'[i.val.toNat]).nat:Int):=by
     show I.of .u64 _ = _
     rw [hrd,hdig.nat.1]
    have hub:U.val u < 65536 ^ i.val.toNat:=by
     rw [hu]
     have:=e1W (c1N hl.dig i.val.toNat)
     rw [List.length_take] at this
     rwa [Nat.min_eq_left (by omega)] at this
    have st:=e4E u (l'[i.val.toNat]).nat i.val.toNat (by omega) hub hdig.nat.2
    refine Wp.again ⟨rfl,?_,?_,?_⟩ ?_
    ·
     show 0 ≤ (I.add i (I.of .i64 1)).val; omega
    ·
     show (I.add i (I.of .i64 1)).val ≤ _; omega
    ·
     show U.val (Arr.upd 4 u (I.nat (I.quo i (I.of .i64 4))) (I.add (Arr.sel (I.of .u64 0) 4 u (I.nat (I.quo i (I.of .i64 4)))) (I.shl (I.conv .u64 (rdL (I.of .i64 0) l' (I.nat i))) (I.conv .u64 (I.mul (I.of .i64 16) (I.rem i (I.of .i64 4))))))) = bv (l'.take (I.add i (I.of .i64 1)).val.toNat)
     have e4:(I.add i (I.of .i64 1)).val.toNat = i.val.toNat + 1:=by omega
     rw [e1,e2,e3,e4,st,c4G hlt,← hu]
    ·
     show ((l'.length:Int) - (I.add i (I.of .i64 1)).val).toNat < _
     simp only; omega
   ·
    have h:=niff_ltb.1 h
    simp only [hol] at h
    have:=fin (by omega)
    subst this
    exact Wp.done rfl
  ·
   refine ⟨rfl,by show 0 ≤ (I.of .i64 0).val; decide,by show (I.of .i64 0).val ≤ (l.length:Int); have:(I.of .i64 0).val = 0:=rfl; omega,?_⟩
   show U.val _ = bv (l.take (I.of .i64 0).val.toNat)
   rfl
  ·
   exact b8C _ (by show ((l.length:Int) - (I.of .i64 0).val).toNat < _; have:(I.of .i64 0).val = 0:=rfl; omega)
 exact key.out
def c3R (n:Nat):U × I .i64:=if n < U.top then (U.of n,I.of .i64 0) else (U.of 0,I.of .i64 4)
theorem c2Q {l:List Dg} {n:Nat} (hl:IsB l n) (hlen:l.length < 9223372036854775808):a2C K0 ((l,()),()) = some ((decide (n < U.top),()),()):=by
 have ht:U.top = 65536 ^ 16:=by decide
 have h:=hl.len (k:=16)
 have hol:(I.ofNat .i64 (a0I l)).val = l.length:=a3H hlen
 have c16:(I.of .i64 16).val = 16:=rfl
 have e:I.leb (I.ofNat .i64 (a0I l)) (I.of .i64 16) = decide (n < U.top):=by
  unfold I.leb
  rw [hol,c16,ht]
  by_cases hc:l.length ≤ 16
  ·
   have:=h.1 hc
   simp [this]; omega
  ·
   have:¬ n < 65536 ^ 16:=fun hh=>hc (h.2 hh)
   simp [this]; omega
 refine Wp.out (T:=fun o=>o = _) ?_
 unfold a2C
 show some ((I.leb (I.ofNat .i64 (a0I l)) (I.of .i64 16),()),()) = _
 rw [e]
theorem e8R {l:List Dg} {n:Nat} (hl:IsB l n) (hlen:l.length < 9223372036854775808):a2K K0 ((l,()),()) = some (((c3R n).1,(c3R n).2,()),()):=by
 refine Wp.out (T:=fun o=>o = _) ?_
 unfold a2K c3R
 refine Wp.optF (c2Q hl hlen) ?_
 by_cases h:n < U.top
 ·
  refine Wp.brnF (by show (!decide (n < U.top)) = false; simp [h]) ?_
  refine Wp.optF (a2Z hl h) ?_
  show _ = _
  rw [if_pos h]
  rfl
 ·
  refine Wp.brnT (by show (!decide (n < U.top)) = true; simp [h]) ?_
  show _ = _
  rw [if_neg h]
  rfl
theorem Checked_ok' {l:List Dg} {n:Nat} (hl:IsB l n) (hlen:l.length ≤ 1000000):a2K K0 ((l,()),()) = some (((c3R n).1,(c3R n).2,()),()):=e8R hl (by omega)
def d3I (x:I .u64):U:=(x,I.of .u64 0,I.of .u64 0,I.of .u64 0,())
theorem c5F (x:I .u64):(d3I x).val = x.nat:=by
 unfold d3I U.val
 have:(I.of .u64 0).nat = 0:=rfl
 simp only [this]
 omega
theorem a1K (x:I .u64):∃ r,a0H K0 ((x,()),()) = some ((r,()),())∧IsB r x.nat:=by
 obtain ⟨r,hr,hB⟩:=a1E (d3I x)
 rw [c5F] at hB
 refine ⟨r,?_,hB⟩
 refine Wp.out (T:=fun o=>o = _) ?_
 unfold a0H
 exact Wp.optF hr rfl
end Sym

/- Natural numbers by digits of 65536: sums, differences, comparison. -/
namespace Sym
open Go
abbrev rd0 (l:List Dg) (i:Nat):Dg:=rdL (I.of .i64 0) l i
theorem f8C:DigOk (I.of .i64 0):=by unfold DigOk; decide
theorem b5E {l:List Dg} (h:c0J l) (i:Nat):DigOk (rd0 l i):=by
 rcases Nat.lt_or_ge i l.length with hi | hi
 ·
  rw [rd0,a3X _ _ _ hi]; exact h _ (List.getElem_mem hi)
 ·
  rw [rd0,c4B _ _ _ hi]; exact f8C
theorem c4Z {l:List Dg} {i:Nat} (h:l.length ≤ i):(rd0 l i).nat = 0:=by rw [rd0,c4B _ _ _ h]; rfl
theorem b9P:∀ (l:List Dg) (i:Nat),bv (l.drop i) = (rd0 l i).nat + 65536 * bv (l.drop (i + 1))
 | [],i=>by simp [bv,rd0,rdL]; rfl
 | x :: l,0=>by simp [bv,rd0,rdL]
 | x :: l,i + 1=>by simpa [rd0,rdL] using b9P l i
theorem c5H (l:List Dg) (i:Nat):bv (l.take (i + 1)) = bv (l.take i) + 65536 ^ i * (rd0 l i).nat:=by
 rcases Nat.lt_or_ge i l.length with hi | hi
 ·
  rw [c4G hi,rd0,a3X _ _ _ hi]
 ·
  rw [c4Z hi,List.take_of_length_le (by omega),List.take_of_length_le hi]; simp
theorem d3A:∀ {l:List Dg},f9C l→∀ (i:Nat),i + 1 = l.length→(rd0 l i).val ≠ 0
 | [],_,i,h=>by simp at h
 | [d],h,i,hi=>by
  have:i = 0:=by simpa using hi
  subst this
  exact h
 | d :: e :: l,h,0,hi=>by simp at hi
 | d :: e :: l,h,i + 1,hi=>d3A (l:=e :: l) h i (by simpa using hi)
structure AddInv (a b:List Dg) (over i:I .i64) (out:List Dg):Prop where
 o0:0 ≤ over.val
 o1:over.val ≤ 1
 i0:0 ≤ i.val
 i1:i.val ≤ max a.length b.length ∨ (over.val = 0∧i.val = max a.length b.length + 1)
 len:(out.length:Int) = i.val
 dig:c0J out
 sum:bv out + 65536 ^ i.val.toNat * (over.nat + bv (a.drop i.val.toNat) + bv (b.drop i.val.toNat)) = bv a + bv b
 lead:over.val = 0→(a.length:Int) ≤ i.val→(b.length:Int) ≤ i.val→f9C out
theorem f4I {a b:List Dg} {over i s:I .i64} {out:List Dg} (ha:c0J a) (hb:c0J b) (la:f9C a) (lb:f9C b) (hal:a.length ≤ 1000000) (hbl:b.length ≤ 1000000) (h:AddInv a b over i out)
  (hc:i.val < a.length ∨ i.val < b.length ∨ 0 < over.val) (hs:s.val = over.val + (rd0 a i.val.toNat).val + (rd0 b i.val.toNat).val) :
  AddInv a b (I.shr s (I.of .u64 16)) (I.add i (I.of .i64 1)) (a2B out [I.and s (I.of .i64 65535)]):=by
 have c1:(I.of .i64 1).val = 1:=rfl
 have da:=b5E ha i.val.toNat
 have db:=b5E hb i.val.toNat
 have da2:=da.nat
 have db2:=db.nat
 unfold DigOk at da db
 have ho0:=h.o0
 have ho1:=h.o1
 have hi0:=h.i0
 have hi1:=h.i1
 have hsh:=c8M s (by omega)
 have han:=e2Y s (by omega)
 have hi:(I.add i (I.of .i64 1)).val = i.val + 1:=by rw [a5N (by omega)]; omega
 have hin:(I.add i (I.of .i64 1)).val.toNat = i.val.toNat + 1:=by omega
 have hout:out.length = i.val.toNat:=by have:=h.len; omega
 refine ⟨by omega,by omega,by omega,?_,?_,?_,?_,?_⟩
 ·
  rcases hi1 with hi1 | hi1
  ·
   rcases Int.lt_or_le i.val (max a.length b.length) with hlt | hge
   ·
    left; omega
   ·
    right
    have z1:=c4Z (l:=a) (i:=i.val.toNat) (by omega)
    have z2:=c4Z (l:=b) (i:=i.val.toNat) (by omega)
    omega
  ·
   exfalso; omega
 ·
  show ((a2B out [_]).length:Int) = _
  simp only [a2B,List.length_append,List.length_singleton]
  have:=h.len
  omega
 ·
  exact digs_app.2 ⟨h.dig,digs_cons.2 ⟨by unfold DigOk; omega,fun _ h=>by simp at h⟩⟩
 ·
  have hsum:=h.sum
  rw [b9P a,b9P b] at hsum
  rw [hin]
  have hn1:(I.and s (I.of .i64 65535)).nat + 65536 * (I.shr s (I.of .u64 16)).nat = over.nat + (rd0 a i.val.toNat).nat + (rd0 b i.val.toNat).nat:=by
   unfold I.nat at *
   omega
  have e:over.nat + ((rd0 a i.val.toNat).nat + 65536 * bv (a.drop (i.val.toNat + 1))) + ((rd0 b i.val.toNat).nat + 65536 * bv (b.drop (i.val.toNat + 1))) =
    (I.and s (I.of .i64 65535)).nat + 65536 * ((I.shr s (I.of .u64 16)).nat + bv (a.drop (i.val.toNat + 1)) + bv (b.drop (i.val.toNat + 1))):=by omega
  rw [e,Nat.mul_add,← Nat.mul_assoc] at hsum
  rw [← hsum,a2B,c3I,hout,Nat.pow_succ]
  simp only [bv,Nat.mul_zero,Nat.add_zero]
  omega
 ·
  intro hz h1 h2
  refine c4S _ _ ?_
  intro hz2
  have hs0:s.val = 0:=by omega
  rcases hc with hc | hc | hc
  ·
   have:=d3A la i.val.toNat (by omega)
   omega
  ·
   have:=d3A lb i.val.toNat (by omega)
   omega
  ·
   omega
theorem b2F {a b:List Dg} {m n:Nat} (ha:IsB a m) (hb:IsB b n) (hal:a.length ≤ 1000000) (hbl:b.length ≤ 1000000):∃ r,a1I K0 ((a,b,()),()) = some ((r,()),())∧IsB r (m + n):=by
 have hol:(I.ofNat .i64 (a0I a)).val = a.length:=a3H (by show a.length < _; omega)
 have hol2:(I.ofNat .i64 (a0I b)).val = b.length:=a3H (by show b.length < _; omega)
 have c0:(I.of .i64 0).val = 0:=rfl
 have key:Wp (fun o=>∃ r,o = some ((r,()),())∧IsB r (m + n)) (a1I K0 ((a,b,()),())):=by
  unfold a1I
  refine Wp.iter (fun x=>x.1.1 = a∧x.1.2.1 = b∧AddInv a b x.1.2.2.1 x.1.2.2.2.1 x.2.1) (fun x=>((max a.length b.length:Int) + 2 - x.1.2.2.2.1.val).toNat) ?_ ?_ ?_
  ·
   rintro ⟨⟨a',b',over,i,⟨⟩⟩,out,⟨⟩⟩ ⟨e1,e2,hI⟩
   simp only at e1 e2 hI
   subst e1 e2
   have hi0:=hI.i0
   have hi1:=hI.i1
   have ho0:=hI.o0
   have ho1:=hI.o1
   have again:∀ (s:I .i64),(i.val < a'.length ∨ i.val < b'.length ∨ 0 < over.val)→s.val = over.val + (rd0 a' i.val.toNat).val + (rd0 b' i.val.toNat).val →
     AddInv a' b' (I.shr s (I.of .u64 16)) (I.add i (I.of .i64 1)) (a2B out [I.and s (I.of .i64 65535)])∧((max a'.length b'.length:Int) + 2 - (I.add i (I.of .i64 1)).val).toNat < ((max a'.length b'.length:Int) + 2 - i.val).toNat:=by
    intro s hc hs
    refine ⟨f4I ha.dig hb.dig ha.lead hb.lead hal hbl hI hc hs,?_⟩
    have c1:(I.of .i64 1).val = 1:=rfl
    have hi:(I.add i (I.of .i64 1)).val = i.val + 1:=by rw [a5N (by omega)]; omega
    omega
   have fits:a1G (a0I (a2B out [I.of .i64 0])) = true:=iff_fits.2 (by show (a2B out [_]).length ≤ _; rw [a2B,List.length_append,List.length_singleton]; have:=hI.len; omega)
   have fits':∀ d:Dg,a1G (a0I (a2B out [d])) = true:=fun d=>iff_fits.2 (by show (a2B out [_]).length ≤ _; rw [a2B,List.length_append,List.length_singleton]; have:=hI.len; omega)
   refine Wp.jn (fun x=>x.1.1 = a'∧x.1.2.1 = b'∧x.1.2.2.1 = over∧x.1.2.2.2.1 = i∧x.2.1 = out∧(i.val < a'.length ∨ i.val < b'.length ∨ 0 < over.val)) ?_ ?_
   ·
    rintro ⟨⟨a1,b1,over1,i1,⟨⟩⟩,out1,⟨⟩⟩ ⟨e1,e2,e3,e4,e5,hc⟩
    simp only at e1 e2 e3 e4 e5
    subst e1 e2 e3 e4 e5
    have ra:=b5E ha.dig i1.val.toNat
    have rb:=b5E hb.dig i1.val.toNat
    unfold DigOk at ra rb
    refine Wp.jn (fun x=>x.1.1 = a1∧x.1.2.1 = b1∧x.1.2.2.1.val = over1.val + (rd0 a1 i1.val.toNat).val∧x.1.2.2.2.1 = i1∧x.2.1 = out1) ?_ ?_
    ·
     rintro ⟨⟨a2,b2,over2,i2,⟨⟩⟩,out2,⟨⟩⟩ ⟨e1,e2,e3,e4,e5⟩
     simp only at e1 e2 e3 e4 e5
     subst e1 e2 e4 e5
     refine Wp.brn (fun h=>?_) (fun h=>?_)
     ·
      have h:=iff_ltb.1 h
      simp only [hol2] at h
      refine Wp.brnT (iff_inB.2 ⟨hi0,by show i2.val < ((b2.length:Nat):Int); omega⟩) ?_
      have hs:(I.add over2 (rd0 b2 i2.val.toNat)).val = over1.val + (rd0 a2 i2.val.toNat).val + (rd0 b2 i2.val.toNat).val:=by rw [a5N (by omega)]; omega
      have:=again _ hc hs
      exact Wp.brnT (fits' _) (Wp.again ⟨rfl,rfl,this.1⟩ this.2)
     ·
      have h:=niff_ltb.1 h
      simp only [hol2] at h
      have hz:=c4Z (l:=b2) (i:=i2.val.toNat) (by omega)
      have hz2:(rd0 b2 i2.val.toNat).val = 0:=by unfold I.nat at hz; omega
      have:=again over2 hc (by omega)
      exact Wp.brnT (fits' _) (Wp.again ⟨rfl,rfl,this.1⟩ this.2)
    ·
     intro j2 hj2
     refine Wp.brn (fun h=>?_) (fun h=>?_)
     ·
      have h:=iff_ltb.1 h
      simp only [hol] at h
      refine Wp.brnT (iff_inB.2 ⟨hi0,by show i1.val < ((a1.length:Nat):Int); omega⟩) ?_
      exact hj2 _ ⟨rfl,rfl,a5N (by show _ ≤ over1.val + (rd0 a1 i1.val.toNat).val∧over1.val + (rd0 a1 i1.val.toNat).val < _; omega),rfl,rfl⟩
     ·
      have h:=niff_ltb.1 h
      simp only [hol] at h
      have hz:=c4Z (l:=a1) (i:=i1.val.toNat) (by omega)
      have hz2:(rd0 a1 i1.val.toNat).val = 0:=by unfold I.nat at hz; omega
      exact hj2 _ ⟨rfl,rfl,by show over1.val = _; omega,rfl,rfl⟩
   ·
    intro j1 hj1
    refine Wp.brn (fun h=>?_) (fun h=>?_)
    ·
     have h:=iff_ltb.1 h
     simp only [hol] at h
     exact hj1 _ ⟨rfl,rfl,rfl,rfl,rfl,.inl h⟩
    ·
     have h:=niff_ltb.1 h
     simp only [hol] at h
     refine Wp.brn (fun h2=>?_) (fun h2=>?_)
     ·
      have h2:=iff_ltb.1 h2
      simp only [hol2] at h2
      exact hj1 _ ⟨rfl,rfl,rfl,rfl,rfl,.inr (.inl h2)⟩
     ·
      have h2:=niff_ltb.1 h2
      simp only [hol2] at h2
      refine Wp.brn (fun h3=>?_) (fun h3=>?_)
      ·
       have h3:=iff_ltb.1 h3
       simp only [c0] at h3
       exact hj1 _ ⟨rfl,rfl,rfl,rfl,rfl,.inr (.inr h3)⟩
      ·
       have h3:=niff_ltb.1 h3
       simp only [c0] at h3
       refine Wp.done ⟨out,rfl,hI.dig,hI.lead (by omega) (by omega) (by omega),?_⟩
       have hsum:=hI.sum
       have hz:over.nat = 0:=by unfold I.nat; omega
       rw [List.drop_of_length_le (l:=a') (by omega),List.drop_of_length_le (l:=b') (by omega),hz] at hsum
       simp only [bv,Nat.mul_zero,Nat.add_zero] at hsum
       rw [hsum,ha.val,hb.val]
  ·
   refine ⟨rfl,rfl,?_⟩
   show AddInv a b (I.of .i64 0) (I.of .i64 0) []
   refine ⟨by decide,by decide,by decide,?_,rfl,fun _ h=>by simp at h,?_,fun _ _ _=>trivial⟩
   ·
    left; show (I.of .i64 0).val ≤ _; omega
   ·
    show bv [] + 65536 ^ (I.of .i64 0).val.toNat * ((I.of .i64 0).nat + bv (a.drop (I.of .i64 0).val.toNat) + bv (b.drop (I.of .i64 0).val.toNat)) = _
    have e:(I.of .i64 0).val.toNat = 0:=rfl
    have e2:(I.of .i64 0).nat = 0:=rfl
    rw [e,e2]
    simp [bv]
  ·
   exact b8C _ (by show ((max a.length b.length:Int) + 2 - (I.of .i64 0).val).toNat < _; omega)
 exact key.out
end Sym

/- Natural numbers by digits of 65536: differences, comparison. -/
namespace Sym
open Go
theorem c2E:∀ (n:Nat),c0J (b8F n (I.of .i64 0))
 | 0=>fun _ h=>by simp [b8F] at h
 | n + 1=>digs_cons.2 ⟨f8C,c2E n⟩
theorem b2E {X:Type}:∀ (n:Nat) (x:X),(b8F n x).length = n
 | 0,_=>rfl
 | n + 1,x=>by simp [b8F,b2E n x]
theorem c2R {X:Type} (l:List X) (i:Nat) (v:X) (h:i < l.length):(l.set i v).take (i + 1) = l.take i ++ [v]:=by
 have h2:i < (l.set i v).length:=by simpa using h
 rw [← List.take_append_getElem h2]
 simp [List.take_set_of_le]
theorem c2J {l:List Dg} (h:c0J l) (i:Nat) {d:Dg} (hd:DigOk d):c0J (l.set i d):=by
 intro e he
 rcases List.mem_or_eq_of_mem_set he with h1 | h1
 ·
  exact h e h1
 ·
  subst h1; exact hd
structure SubInv (a b:List Dg) (under i:I .i64) (out:List Dg):Prop where
 u0:0 ≤ under.val
 u1:under.val ≤ 1
 i0:0 ≤ i.val
 i1:i.val ≤ a.length
 len:out.length = a.length
 dig:c0J out
 sum:bv (out.take i.val.toNat) + bv (b.take i.val.toNat) = bv (a.take i.val.toNat) + 65536 ^ i.val.toNat * under.nat
theorem e6G {a b:List Dg} {under i d un:I .i64} {out:List Dg} (ha:c0J a) (hb:c0J b) (hal:a.length ≤ 1000000) (h:SubInv a b under i out) (hc:i.val < a.length)
  (hd:DigOk d) (hu:un.val = 0 ∨ un.val = 1) (hs:d.val = (rd0 a i.val.toNat).val - under.val - (rd0 b i.val.toNat).val + 65536 * un.val) :
  SubInv a b un (I.add i (I.of .i64 1)) (setAt out (I.nat i) d):=by
 have c1:(I.of .i64 1).val = 1:=rfl
 have da2:=(b5E ha i.val.toNat).nat
 have db2:=(b5E hb i.val.toNat).nat
 have hd2:=hd.nat
 have hu0:=h.u0
 have hu1:=h.u1
 have hi0:=h.i0
 have hi:(I.add i (I.of .i64 1)).val = i.val + 1:=by rw [a5N (by omega)]; omega
 have hin:(I.add i (I.of .i64 1)).val.toNat = i.val.toNat + 1:=by omega
 have hlen:=h.len
 have hni:I.nat i = i.val.toNat:=rfl
 rw [a6Q,hni]
 refine ⟨by omega,by omega,by omega,by omega,by simpa using hlen,c2J h.dig _ hd,?_⟩
 rw [hin,c2R _ _ _ (by omega),c3I,c5H a,c5H b]
 have el:(out.take i.val.toNat).length = i.val.toNat:=by simp; omega
 rw [el,Nat.pow_succ]
 simp only [bv,Nat.mul_zero,Nat.add_zero]
 have hsum:=h.sum
 have e:d.nat + (rd0 b i.val.toNat).nat + under.nat = (rd0 a i.val.toNat).nat + 65536 * un.nat:=by
  unfold I.nat at *
  omega
 have e2:=congrArg (fun z=>65536 ^ i.val.toNat * z) e
 simp only [Nat.mul_add] at e2
 rw [← Nat.mul_assoc] at e2
 omega
theorem c7D {a b:List Dg} {m n:Nat} (ha:IsB a m) (hb:IsB b n) (hmn:n ≤ m) (hal:a.length ≤ 1000000):∃ r,a2M K0 ((a,b,()),()) = some ((r,()),())∧IsB r (m - n):=by
 have hbl:b.length ≤ a.length:=hb.len.2 (Nat.lt_of_le_of_lt hmn (ha.len.1 (Nat.le_refl _)))
 have hol:(I.ofNat .i64 (a0I a)).val = a.length:=a3H (by show a.length < _; omega)
 have hol2:(I.ofNat .i64 (a0I b)).val = b.length:=a3H (by show b.length < _; omega)
 have c0:(I.of .i64 0).val = 0:=rfl
 have hn:I.nat (I.ofNat .i64 (a0I a)) = a.length:=by unfold I.nat; omega
 have key:Wp (fun o=>∃ r,o = some ((r,()),())∧IsB r (m - n)) (a2M K0 ((a,b,()),())):=by
  unfold a2M
  refine Wp.brnT ?_ ?_
  ·
   show (decide (0 ≤ (I.ofNat .i64 (a0I a)).val) && decide ((I.ofNat .i64 (a0I a)).val ≤ ((I.nat (I.ofNat .i64 (a0I a)):Nat):Int))) = true
   rw [hn,hol]; simp
  refine Wp.brnT ?_ ?_
  ·
   show (decide (0 ≤ (I.ofNat .i64 (a0I a)).val) && decide ((I.ofNat .i64 (a0I a)).val ≤ ((1073741824:Nat):Int))) = true
   rw [hol]; simp; omega
  refine Wp.iter (fun x=>x.1.1 = a∧x.1.2.1 = b∧SubInv a b x.1.2.2.1 x.1.2.2.2.1 x.2.1) (fun x=>((a.length:Int) - x.1.2.2.2.1.val).toNat) ?_ ?_ ?_
  ·
   rintro ⟨⟨a',b',under,i,⟨⟩⟩,out,⟨⟩⟩ ⟨e1,e2,hI⟩
   simp only at e1 e2 hI
   subst e1 e2
   have hi0:=hI.i0
   have hi1:=hI.i1
   have hu0:=hI.u0
   have hu1:=hI.u1
   refine Wp.brn (fun h=>?_) (fun h=>?_)
   ·
    have hlt:=iff_ltb.1 h
    simp only [hol] at hlt
    clear h
    have ra:=b5E ha.dig i.val.toNat
    have rb:=b5E hb.dig i.val.toNat
    have ra':=ra
    have rb':=rb
    unfold DigOk at ra rb
    have c1:(I.of .i64 1).val = 1:=rfl
    have hi:(I.add i (I.of .i64 1)).val = i.val + 1:=by rw [a5N (by omega)]; omega
    have hm:((a'.length:Int) - (I.add i (I.of .i64 1)).val).toNat < ((a'.length:Int) - i.val).toNat:=by omega
    have hlen:=hI.len
    refine Wp.brnT (iff_inB.2 ⟨hi0,by show i.val < ((a'.length:Nat):Int); omega⟩) ?_
    refine Wp.jn (fun x=>x.1.1 = a'∧x.1.2.1 = b'∧x.1.2.2.1 = i∧x.1.2.2.2.1.val = (rd0 a' i.val.toNat).val - under.val - (rd0 b' i.val.toNat).val∧x.2.1 = out) ?_ ?_
    ·
     rintro ⟨⟨a1,b1,i1,x,⟨⟩⟩,out1,⟨⟩⟩ ⟨e1,e2,e3,e4,e5⟩
     simp only at e1 e2 e3 e4 e5
     subst e1 e2 e3 e5
     refine Wp.brn (fun h2=>?_) (fun h2=>?_)
     ·
      have h2:=iff_ltb.1 h2
      simp only [c0] at h2
      refine Wp.brnT (iff_inB.2 ⟨hi0,by show i1.val < ((out1.length:Nat):Int); omega⟩) ?_
      have c6:(I.of .i64 65536).val = 65536:=rfl
      have hx:(I.add x (I.of .i64 65536)).val = x.val + 65536:=by rw [a5N (by omega)]; omega
      have st:=e6G (un:=I.of .i64 1) (d:=I.add x (I.of .i64 65536)) ha.dig hb.dig hal hI hlt (by unfold DigOk; omega) (.inr rfl) (by omega)
      exact Wp.again ⟨rfl,rfl,st⟩ hm
     ·
      have h2:=niff_ltb.1 h2
      simp only [c0] at h2
      refine Wp.brnT (iff_inB.2 ⟨hi0,by show i1.val < ((out1.length:Nat):Int); omega⟩) ?_
      have st:=e6G (un:=I.of .i64 0) (d:=x) ha.dig hb.dig hal hI hlt (by unfold DigOk; omega) (.inl rfl) (by omega)
      exact Wp.again ⟨rfl,rfl,st⟩ hm
    ·
     intro j hj
     have hs1:(I.sub (rd0 a' i.val.toNat) under).val = (rd0 a' i.val.toNat).val - under.val:=a8B (by omega)
     refine Wp.brn (fun h2=>?_) (fun h2=>?_)
     ·
      have h2:=iff_ltb.1 h2
      simp only [hol2] at h2
      refine Wp.brnT (iff_inB.2 ⟨hi0,by show i.val < ((b'.length:Nat):Int); omega⟩) ?_
      refine hj _ ⟨rfl,rfl,rfl,?_,rfl⟩
      show (I.sub (I.sub (rd0 a' i.val.toNat) under) (rd0 b' i.val.toNat)).val = _
      rw [a8B (by omega),hs1]
     ·
      have h2:=niff_ltb.1 h2
      simp only [hol2] at h2
      have hz:=c4Z (l:=b') (i:=i.val.toNat) (by omega)
      have hz2:(rd0 b' i.val.toNat).val = 0:=by unfold I.nat at hz; omega
      refine hj _ ⟨rfl,rfl,rfl,?_,rfl⟩
      show (I.sub (rd0 a' i.val.toNat) under).val = _
      omega
   ·
    have h:=niff_ltb.1 h
    simp only [hol] at h
    have hlen:=hI.len
    have hsum:=hI.sum
    have hi:i.val.toNat = a'.length:=by omega
    rw [hi,List.take_of_length_le (by omega),List.take_of_length_le hbl,List.take_length,ha.val,hb.val] at hsum
    have hlt:=e1W hI.dig
    rw [hlen] at hlt
    have hz:under.nat = 0:=by
     unfold I.nat
     rcases Int.lt_or_le under.val 1 with h1 | h1
     ·
      omega
     ·
      exfalso
      have:under.nat = 1:=by unfold I.nat; omega
      rw [this] at hsum
      omega
    rw [hz,Nat.mul_zero,Nat.add_zero] at hsum
    have hbv:bv out = m - n:=by omega
    have holen:(I.ofNat .i64 (a0I out)).val = out.length:=a3H (by show out.length < _; omega)
    clear hsum h
    refine Wp.done ?_
    refine Wp.iter (fun x=>x.2.1 = out∧0 ≤ x.1.1.val∧x.1.1.val ≤ (out.length:Int)∧bv (out.take x.1.1.val.toNat) = bv out) (fun x=>x.1.1.val.toNat) ?_ ?_ ?_
    ·
     rintro ⟨⟨j,r⟩,out',⟨⟩⟩ ⟨e1,hj0,hj1,hb⟩
     simp only at e1 hj0 hj1 hb
     subst e1
     have c1:(I.of .i64 1).val = 1:=rfl
     have cut:inB' j (a0I out') = true:=by
      show (decide (0 ≤ j.val) && decide (j.val ≤ ((out'.length:Nat):Int))) = true
      simp [hj0,hj1]
     have sub:a4N out' 0 (I.nat j) = out'.take j.val.toNat:=by simp [a4N,I.nat]
     refine Wp.brn (fun h=>?_) (fun h=>?_)
     ·
      have h:=iff_ltb.1 h
      have h:(I.of .i64 0).val < j.val:=h
      have hs:(I.sub j (I.of .i64 1)).val = j.val - 1:=by rw [a8B (by omega)]; omega
      have hidx:(I.nat (I.sub j (I.of .i64 1))) = j.val.toNat - 1:=by unfold I.nat; omega
      have hlt:j.val.toNat - 1 < out'.length:=by omega
      have hrd:rdL (I.of .i64 0) out' (I.nat (I.sub j (I.of .i64 1))) = out'[j.val.toNat - 1]:=by rw [hidx]; exact a3X _ _ _ hlt
      have htk:out'.take j.val.toNat = out'.take (j.val.toNat - 1) ++ [out'[j.val.toNat - 1]]:=by
       rw [List.take_append_getElem hlt]
       congr 1
       omega
      refine Wp.brnT (iff_inB.2 ⟨by show 0 ≤ (I.sub j (I.of .i64 1)).val; omega,by show (I.sub j (I.of .i64 1)).val < (out'.length:Int); omega⟩) ?_
      refine Wp.brn (fun h2=>?_) (fun h2=>?_)
      ·
       have h2:=iff_eqb.1 h2
       have h2:(rdL (I.of .i64 0) out' (I.nat (I.sub j (I.of .i64 1)))).val = (I.of .i64 0).val:=h2
       rw [hrd] at h2
       refine Wp.again ⟨rfl,?_,?_,?_⟩ ?_
       ·
        show 0 ≤ (I.sub j (I.of .i64 1)).val; omega
       ·
        show (I.sub j (I.of .i64 1)).val ≤ _; omega
       ·
        show bv (out'.take (I.sub j (I.of .i64 1)).val.toNat) = _
        have e:(I.sub j (I.of .i64 1)).val.toNat = j.val.toNat - 1:=by omega
        rw [e,← hb,htk,c3I]
        have hz:(out'[j.val.toNat - 1]).nat = 0:=by unfold I.nat; rw [h2]; rfl
        simp [bv,hz]
       ·
        show (I.sub j (I.of .i64 1)).val.toNat < j.val.toNat
        omega
      ·
       have h2:=niff_eqb.1 h2
       have h2:(rdL (I.of .i64 0) out' (I.nat (I.sub j (I.of .i64 1)))).val ≠ (I.of .i64 0).val:=h2
       rw [hrd] at h2
       refine Wp.done (Wp.brnT cut ⟨_,rfl,?_⟩)
       show IsB (a4N out' 0 (I.nat j)) _
       rw [sub]
       refine ⟨c1N hI.dig _,?_,hb.trans hbv⟩
       rw [htk]
       exact c4S _ _ h2
     ·
      have h:=niff_ltb.1 h
      have h:j.val ≤ (I.of .i64 0).val:=h
      refine Wp.done (Wp.brnT cut ⟨_,rfl,?_⟩)
      show IsB (a4N out' 0 (I.nat j)) _
      rw [sub]
      have e:j.val.toNat = 0:=by omega
      rw [e] at hb ⊢
      simp only [List.take_zero] at hb ⊢
      rw [← hbv,← hb]
      exact d2U
    ·
     refine ⟨rfl,?_,?_,?_⟩
     ·
      show 0 ≤ (I.ofNat .i64 (a0I out)).val; omega
     ·
      show (I.ofNat .i64 (a0I out)).val ≤ _; omega
     ·
      show bv (out.take (I.ofNat .i64 (a0I out)).val.toNat) = _
      rw [holen,Int.toNat_natCast,List.take_length]
    ·
     refine b8C _ ?_
     show (I.ofNat .i64 (a0I out)).val.toNat < _
     omega
  ·
   refine ⟨rfl,rfl,?_⟩
   show SubInv a b (I.of .i64 0) (I.of .i64 0) (b8F (I.nat (I.ofNat .i64 (a0I a))) (I.of .i64 0))
   rw [hn]
   have e:(I.of .i64 0).val.toNat = 0:=rfl
   refine ⟨by decide,by decide,by decide,by omega,b2E _ _,c2E _,?_⟩
   rw [e]
   rfl
  ·
   exact b8C _ (by show ((a.length:Int) - (I.of .i64 0).val).toNat < _; omega)
 exact key.out
def c3J (m n:Nat):I .i64:=if m < n then I.of .i64 (-1) else if n < m then I.of .i64 1 else I.of .i64 0
theorem f8R {a b:List Dg} (ha:c0J a) (hb:c0J b) (i:Nat) (hd:bv (a.drop (i + 1)) = bv (b.drop (i + 1))) (hlt:(rd0 a i).nat < (rd0 b i).nat) (hia:i ≤ a.length) (hib:i ≤ b.length):bv a < bv b:=by
 have e1:bv a = bv (a.take i) + 65536 ^ i * bv (a.drop i):=by
  have:=c3I (a.take i) (a.drop i)
  rw [List.take_append_drop] at this
  rw [this]; simp [Nat.min_eq_left hia]
 have e2:bv b = bv (b.take i) + 65536 ^ i * bv (b.drop i):=by
  have:=c3I (b.take i) (b.drop i)
  rw [List.take_append_drop] at this
  rw [this]; simp [Nat.min_eq_left hib]
 have h1:=e1W (c1N ha i)
 rw [List.length_take,Nat.min_eq_left hia] at h1
 have h2:bv (a.drop i) + 1 ≤ bv (b.drop i):=by rw [b9P a,b9P b]; omega
 have h3:=Nat.mul_le_mul_left (65536 ^ i) h2
 rw [Nat.mul_add] at h3
 omega
theorem c4L {a b:List Dg} {m n:Nat} (ha:IsB a m) (hb:IsB b n) (hal:a.length ≤ 1000000) (hbl:b.length ≤ 1000000):a2S K0 ((a,b,()),()) = some ((c3J m n,()),()):=by
 have hol:(I.ofNat .i64 (a0I a)).val = a.length:=a3H (by show a.length < _; omega)
 have hol2:(I.ofNat .i64 (a0I b)).val = b.length:=a3H (by show b.length < _; omega)
 have c0:(I.of .i64 0).val = 0:=rfl
 have c1:(I.of .i64 1).val = 1:=rfl
 have key:Wp (fun o=>o = some ((c3J m n,()),())) (a2S K0 ((a,b,()),())):=by
  unfold a2S
  refine Wp.brn (fun h=>?_) (fun h=>?_)
  ·
   have h:=iff_neb.1 h
   simp only [hol,hol2] at h
   refine Wp.brn (fun h2=>?_) (fun h2=>?_)
   ·
    have h2:=iff_ltb.1 h2
    simp only [hol,hol2] at h2
    have h3:m < n:=by
     rcases Nat.lt_or_ge m n with h3 | h3
     ·
      exact h3
     ·
      have:=hb.len.2 (Nat.lt_of_le_of_lt h3 (ha.len.1 (Nat.le_refl _)))
      omega
    show _ = _
    unfold c3J
    rw [if_pos h3]
    rfl
   ·
    have h2:=niff_ltb.1 h2
    simp only [hol,hol2] at h2
    have h3:n < m:=by
     rcases Nat.lt_or_ge n m with h3 | h3
     ·
      exact h3
     ·
      have:=ha.len.2 (Nat.lt_of_le_of_lt h3 (hb.len.1 (Nat.le_refl _)))
      omega
    show _ = _
    unfold c3J
    rw [if_neg (by omega),if_pos h3]
    rfl
  ·
   have h:=niff_neb.1 h
   simp only [hol,hol2] at h
   have hs:(I.sub (I.ofNat .i64 (a0I a)) (I.of .i64 1)).val = a.length - 1:=by rw [a8B (by omega)]; omega
   refine Wp.iter (fun x=>x.1.1 = a∧x.1.2.1 = b∧-1 ≤ x.1.2.2.1.val∧x.1.2.2.1.val < (a.length:Int)∧bv (a.drop (x.1.2.2.1.val + 1).toNat) = bv (b.drop (x.1.2.2.1.val + 1).toNat)) (fun x=>(x.1.2.2.1.val + 1).toNat) ?_ ?_ ?_
   ·
    rintro ⟨⟨a',b',i,⟨⟩⟩,⟨⟩⟩ ⟨e1,e2,hi0,hi1,hd⟩
    simp only at e1 e2 hi0 hi1 hd
    subst e1 e2
    refine Wp.brn (fun h2=>?_) (fun h2=>?_)
    ·
     have h2:=iff_leb.1 h2
     simp only [c0] at h2
     have ha1:inB i (a0I a') = true:=iff_inB.2 ⟨h2,by show i.val < ((a'.length:Nat):Int); omega⟩
     have hb1:inB i (a0I b') = true:=iff_inB.2 ⟨h2,by show i.val < ((b'.length:Nat):Int); omega⟩
     have en:(i.val + 1).toNat = i.val.toNat + 1:=by omega
     rw [en] at hd
     have na:=(b5E ha.dig i.val.toNat).nat
     have nb:=(b5E hb.dig i.val.toNat).nat
     refine Wp.brnT ha1 (Wp.brnT hb1 ?_)
     refine Wp.brn (fun h3=>?_) (fun h3=>?_)
     ·
      have h3:=iff_ltb.1 h3
      have h3:(rd0 a' i.val.toNat).val < (rd0 b' i.val.toNat).val:=h3
      have:=f8R ha.dig hb.dig i.val.toNat hd (by omega) (by omega) (by omega)
      rw [ha.val,hb.val] at this
      refine Wp.done ?_
      show _ = _
      unfold c3J
      rw [if_pos this]
      rfl
     ·
      have h3:=niff_ltb.1 h3
      have h3:(rd0 b' i.val.toNat).val ≤ (rd0 a' i.val.toNat).val:=h3
      refine Wp.brnT ha1 (Wp.brnT hb1 ?_)
      refine Wp.brn (fun h4=>?_) (fun h4=>?_)
      ·
       have h4:=iff_ltb.1 h4
       have h4:(rd0 b' i.val.toNat).val < (rd0 a' i.val.toNat).val:=h4
       have:=f8R hb.dig ha.dig i.val.toNat hd.symm (by omega) (by omega) (by omega)
       rw [ha.val,hb.val] at this
       refine Wp.done ?_
       show _ = _
       unfold c3J
       rw [if_neg (by omega),if_pos this]
       rfl
      ·
       have h4:=niff_ltb.1 h4
       have h4:(rd0 a' i.val.toNat).val ≤ (rd0 b' i.val.toNat).val:=h4
       have hsi:(I.sub i (I.of .i64 1)).val = i.val - 1:=by rw [a8B (by omega)]; omega
       refine Wp.again ⟨rfl,rfl,?_,?_,?_⟩ ?_
       ·
        show -1 ≤ (I.sub i (I.of .i64 1)).val; omega
       ·
        show (I.sub i (I.of .i64 1)).val < _; omega
       ·
        show bv (a'.drop ((I.sub i (I.of .i64 1)).val + 1).toNat) = bv (b'.drop ((I.sub i (I.of .i64 1)).val + 1).toNat)
        have e:((I.sub i (I.of .i64 1)).val + 1).toNat = i.val.toNat:=by omega
        rw [e,b9P a',b9P b',hd]
        omega
       ·
        show ((I.sub i (I.of .i64 1)).val + 1).toNat < _
        simp only; omega
    ·
     have h2:=niff_leb.1 h2
     simp only [c0] at h2
     have e:(i.val + 1).toNat = 0:=by omega
     rw [e] at hd
     simp only [List.drop_zero] at hd
     rw [ha.val,hb.val] at hd
     refine Wp.done ?_
     show _ = _
     unfold c3J
     rw [if_neg (by omega),if_neg (by omega)]
     rfl
   ·
    refine ⟨rfl,rfl,?_,?_,?_⟩
    ·
     show -1 ≤ (I.sub (I.ofNat .i64 (a0I a)) (I.of .i64 1)).val; omega
    ·
     show (I.sub (I.ofNat .i64 (a0I a)) (I.of .i64 1)).val < _; omega
    ·
     show bv (a.drop ((I.sub (I.ofNat .i64 (a0I a)) (I.of .i64 1)).val + 1).toNat) = bv (b.drop ((I.sub (I.ofNat .i64 (a0I a)) (I.of .i64 1)).val + 1).toNat)
     have e:((I.sub (I.ofNat .i64 (a0I a)) (I.of .i64 1)).val + 1).toNat = a.length:=by omega
     rw [e,List.drop_of_length_le (Nat.le_refl _),List.drop_of_length_le (by omega)]
   ·
    exact b8C _ (by show ((I.sub (I.ofNat .i64 (a0I a)) (I.of .i64 1)).val + 1).toNat < _; omega)
 exact key.out
end Sym

/- Limbs of 256 bits; products of 64 bits. -/
namespace Sym
open Go
abbrev W64:Nat:=18446744073709551616
def limb' (a:U) (i:Nat):Nat:=(Arr.sel (I.of .u64 0) 4 a i).nat
theorem g2I (x:I .u64) (n:Nat) (m:I .u64) (hn:n < 64) (hm:m.val = ((2 ^ n - 1:Nat):Int)):(I.and x m).nat = x.nat % 2 ^ n:=by
 have hx:=a6I x
 have h1:(BitVec.ofInt 64 x.val).toNat = x.nat:=by rw [BitVec.toNat_ofInt]; unfold I.nat; omega
 have hp:2 ^ n ≤ 2 ^ 63:=Nat.pow_le_pow_right (by decide) (by omega)
 have h2:(BitVec.ofInt 64 m.val).toNat = 2 ^ n - 1:=by rw [BitVec.toNat_ofInt,hm]; omega
 have h3:(BitVec.ofInt IntKind.u64.bits x.val &&& BitVec.ofInt IntKind.u64.bits m.val).toNat = x.nat % 2 ^ n:=by
  show (BitVec.ofInt 64 x.val &&& BitVec.ofInt 64 m.val).toNat = _
  rw [BitVec.toNat_and,h1,h2,Nat.and_two_pow_sub_one_eq_mod]
 unfold I.and
 rw [h3]
 have h4:x.nat % 2 ^ n < 2 ^ n:=Nat.mod_lt _ (Nat.pow_pos (by decide))
 exact b5P (by omega)
theorem g3C (x s:I .u64) (hs:s.nat < 64):(I.shr x s).nat = x.nat / 2 ^ s.nat:=by
 have h0:=a6I s
 have hx:=a6I x
 have h:=f1K x s (by unfold I.nat at hs; omega)
 have e:s.val.toNat = s.nat:=rfl
 rw [e] at h
 have h1:((x.nat / 2 ^ s.nat:Nat):Int) = x.val / (2:Int) ^ s.nat:=by
  rw [Int.natCast_ediv,a2A]
  simp
 have:=a2A (I.shr x s)
 omega
theorem g2R (a b:I .u64):(I.add a b).nat = (a.nat + b.nat) % W64:=by
 have h1:=a2A a
 have h2:=a2A b
 show (IntKind.u64.wrap (a.val + b.val)).toNat = _ % 18446744073709551616
 rw [wrap_u64]
 omega
end Sym

/- Products of 256 bits. -/
namespace Sym
open Go
end Sym

/- Equality and order of 256 bits. -/
namespace Sym
open Go
theorem e4Y (a b:U):Ty.eqb (.arr 4 (.int .u64)) a b = decide (a.val = b.val):=by
 by_cases h:a.val = b.val
 ·
  have:=U.ext h
  subst this
  simp [Ty.eqb,Arr.eqb]
 ·
  simp only [h,decide_false]
  cases hb:Ty.eqb (.arr 4 (.int .u64)) a b with
  | false=>rfl
  | true =>
   exfalso
   apply h
   obtain ⟨a0,a1,a2,a3,⟨⟩⟩:=a
   obtain ⟨b0,b1,b2,b3,⟨⟩⟩:=b
   simp only [Ty.eqb,Arr.eqb,Bool.and_eq_true,decide_eq_true_eq,and_true] at hb
   obtain ⟨h0,h1,h2,h3⟩:=hb
   rw [I.ext' h0,I.ext' h1,I.ext' h2,I.ext' h3]
end Sym

/- Quotients of 512 by 256 bits. -/
namespace Sym
open Go
end Sym

/- Quotients of 512 by 256 bits: the loop. -/
namespace Sym
open Go
theorem f2I (i:Nat):2 ^ i = W64 ^ (i / 64) * 2 ^ (i % 64):=by
 have:W64 = 2 ^ 64:=by decide
 rw [this,← Nat.pow_mul,← Nat.pow_add]
 congr 1
 omega
theorem g8C (a:U) (k:Nat) (hk:k < 4):∃ Y,a.val / W64 ^ k = limb' a k + W64 * Y:=by
 obtain ⟨a0,a1,a2,a3,⟨⟩⟩:=a
 have n0:=a3I a0
 have n1:=a3I a1
 have n2:=a3I a2
 have n3:=a3I a3
 have p0:W64 ^ 0 = 1:=by decide
 have p1:W64 ^ 1 = 18446744073709551616:=by decide
 have p2:W64 ^ 2 = 340282366920938463463374607431768211456:=by decide
 have p3:W64 ^ 3 = 6277101735386680763835789423207666416102355444464034512896:=by decide
 have hc:k = 0 ∨ k = 1 ∨ k = 2 ∨ k = 3:=by omega
 rcases hc with rfl | rfl | rfl | rfl
 ·
  refine ⟨a1.nat + 18446744073709551616 * (a2.nat + 18446744073709551616 * a3.nat),?_⟩
  show U.val _ / W64 ^ 0 = a0.nat + 18446744073709551616 * _
  rw [p0]; unfold U.val; simp only; omega
 ·
  refine ⟨a2.nat + 18446744073709551616 * a3.nat,?_⟩
  show U.val _ / W64 ^ 1 = a1.nat + 18446744073709551616 * _
  rw [p1]; unfold U.val; simp only; omega
 ·
  refine ⟨a3.nat,?_⟩
  show U.val _ / W64 ^ 2 = a2.nat + 18446744073709551616 * _
  rw [p2]; unfold U.val; simp only; omega
 ·
  refine ⟨0,?_⟩
  show U.val _ / W64 ^ 3 = a3.nat + 18446744073709551616 * _
  rw [p3]; unfold U.val; simp only; omega
theorem g5A (a:U) (i:Nat) (hi:i < 256):a.val / 2 ^ i % 2 = limb' a (i / 64) / 2 ^ (i % 64) % 2:=by
 obtain ⟨Y,hY⟩:=g8C a (i / 64) (by omega)
 rw [f2I i,← Nat.div_div_eq_div_mul,hY]
 have e:W64 = 2 ^ (i % 64) * (2 * 2 ^ (63 - i % 64)):=by
  have:2 * 2 ^ (63 - i % 64) = 2 ^ (64 - i % 64):=by rw [show 64 - i % 64 = (63 - i % 64) + 1 by omega,Nat.pow_succ,Nat.mul_comm]
  rw [this,← Nat.pow_add,show i % 64 + (64 - i % 64) = 64 by omega]
 rw [e,Nat.mul_assoc,Nat.add_mul_div_left _ _ (Nat.pow_pos (by decide)),Nat.mul_assoc,Nat.add_mul_mod_self_left]
end Sym

/- Quotients of 512 by 256 bits: what they are. -/
namespace Sym
open Go
theorem g1Z:U.top = 2 ^ 256:=by decide
end Sym

/- The law of the gas price's bounds, of the plain functions. -/
namespace Sym
open Go
def d1M (t:U × U) (base:U):U × I .i64 :=
 if base.val ≤ t.1.val then (U.of (base.val + min t.2.val (t.1.val - base.val)),I.of .i64 0) else (U.of 0,I.of .i64 12)
end Sym

/- The law of the charge's total. -/
namespace Sym
open Go
theorem c4A {n:Nat} (h:n < U.top):c3R n = (U.of n,I.of .i64 0):=if_pos h
theorem d7A {n:Nat} (h:U.top ≤ n):c3R n = (U.of 0,I.of .i64 4):=if_neg (by omega)
theorem a9C {l:List Dg} {n:Nat} (h:IsB l n) (k:Nat) (hn:n < 65536 ^ k) (hk:k ≤ 1000000):l.length ≤ 1000000:=Nat.le_trans (h.len.2 hn) hk
theorem f0C:U.top = 65536 ^ 16:=by decide
theorem c0Z {l:List Dg} {a:U} (h:IsB l a.val):l.length ≤ 1000000:=a9C h 16 (by rw [← f0C]; exact a.lt) (by decide)
end Sym

/- Products of 512 bits and shares of them. -/
namespace Sym
open Go
theorem e6C (n b:Nat) (hb:b ≤ 10000):n * b / 10000 ≤ n:=by
 have h1:n * b ≤ n * 10000:=Nat.mul_le_mul_left _ hb
 exact Nat.div_le_of_le_mul (by rw [Nat.mul_comm 10000 n]; exact h1)
end Sym

/- Sums that stop at the top; numbers by shape. -/
namespace Sym
open Go
theorem c7Q (x n:I .i64) (h:0 < n.val):∃ y:I .i64,a7X K0 ((x,n,()),()) = some ((y,()),())∧0 ≤ y.val∧y.val < n.val:=by
 have hn:=b4W n
 have e:(I.conv .u64 n).val = n.val:=b9B ⟨by omega,by omega⟩
 have hx:=a6I (I.conv .u64 x)
 have er:(I.rem (I.conv .u64 x) (I.conv .u64 n)).val = (I.conv .u64 x).val % n.val:=by rw [f0F (by omega),e]
 have h3:=Int.emod_nonneg (I.conv .u64 x).val (b:=n.val) (by omega)
 have h4:=Int.emod_lt_of_pos (I.conv .u64 x).val (b:=n.val) (by omega)
 have ec:(I.conv .i64 (I.rem (I.conv .u64 x) (I.conv .u64 n))).val = (I.conv .u64 x).val % n.val:=by
  show (I.of .i64 _).val = _
  rw [er]
  exact b7M ⟨by omega,by omega⟩
 refine ⟨I.conv .i64 (I.rem (I.conv .u64 x) (I.conv .u64 n)),?_,by omega,by omega⟩
 refine Wp.out (T:=fun o=>o = _) ?_
 unfold a7X
 refine Wp.brnT (iff_nz.2 ?_) rfl
 show (I.conv .u64 n).val ≠ 0
 omega
end Sym

/- The law of the gas price's bounds: bytes, numbers, the law. -/
namespace Sym
open Go
theorem b6G {X:Type} (l:List X) (x:X):(a2B l [x]).length = l.length + 1:=by simp [a2B]
theorem c7S (v:List (I .i64)) (hv:v.length ≤ 1000):∃ out:List (I .u8),a4K K0 ((v,()),()) = some ((out,()),())∧out.length ≤ 24 * v.length:=by
 have key:Wp (fun o=>∃ out:List (I .u8),o = some ((out,()),())∧out.length ≤ 24 * v.length) (a4K K0 ((v,()),())):=by
  have c1:(I.of .i64 1).val = 1:=rfl
  have c8:(I.of .i64 8).val = 8:=rfl
  have c24:(I.of .i64 24).val = 24:=rfl
  have c64:(I.of .i64 64).val = 64:=rfl
  have c20:(I.of .i64 1048576).val = 1048576:=rfl
  have c0:(I.of .i64 0).val = 0:=rfl
  have hlen:(I.ofNat .i64 (a0I v)).val = v.length:=a3H (by show v.length < _; omega)
  unfold a4K
  refine Wp.iter (fun x=>x.1.1 = v∧0 ≤ x.1.2.1.val∧x.1.2.1.val ≤ (v.length:Int)∧(x.2.1.length:Int) ≤ 24 * x.1.2.1.val) (fun x=>((v.length:Int) - x.1.2.1.val).toNat) ?_ ?_ ?_
  ·
   rintro ⟨⟨l,i,⟨⟩⟩,out,⟨⟩⟩ ⟨hl,hi0,hi1,ho⟩
   simp only at hl hi0 hi1 ho
   subst hl
   refine Wp.brn (fun h=>?_) (fun h=>?_)
   ·
    have h:=iff_ltb.1 h
    simp only [hlen] at h
    have hstep:(I.add i (I.of .i64 1)).val = i.val + 1:=by rw [a5N (by omega)]; omega
    refine Wp.brnT (iff_inB.2 ⟨hi0,by simpa [a0I] using h⟩) ?_
    obtain ⟨y,hy,hy0,hy1⟩:=c7Q (rdL (I.of .i64 0) l (I.nat i)) (I.of .i64 1048576) (by decide)
    refine Wp.optF hy ?_
    have q8:(I.quo y (I.of .i64 8)).val = y.val / 8:=b9M hy0 (by decide)
    have r24:(I.rem (I.quo y (I.of .i64 8)) (I.of .i64 24)).val = y.val / 8 % 24:=by rw [b7H (by omega) (by decide),q8]; rfl
    have hn:(I.add (I.of .i64 1) (I.rem (I.quo y (I.of .i64 8)) (I.of .i64 24))).val = 1 + y.val / 8 % 24:=by rw [a5N (by omega)]; omega
    have hn2:1 ≤ (I.add (I.of .i64 1) (I.rem (I.quo y (I.of .i64 8)) (I.of .i64 24))).val∧(I.add (I.of .i64 1) (I.rem (I.quo y (I.of .i64 8)) (I.of .i64 24))).val ≤ 24:=by omega
    generalize I.add (I.of .i64 1) (I.rem (I.quo y (I.of .i64 8)) (I.of .i64 24)) = n at hn2
    refine Wp.jn (fun x=>x.1.1 = l∧x.1.2.1 = i∧x.1.2.2.1 = y∧x.1.2.2.2.1 = n∧x.2.1 = out) ?_ ?_
    ·
     rintro ⟨⟨l',i',y',n',m,b,⟨⟩⟩,out',⟨⟩⟩ ⟨e1,e2,e3,e4,e5⟩
     simp only at e1 e2 e3 e4 e5
     subst e1 e2 e3 e4 e5
     refine Wp.brn (fun _=>?_) (fun _=>?_)
     ·
      refine Wp.iter (fun x=>x.1.1 = l'∧x.1.2.1 = i'∧x.1.2.2.2.1 = n'∧0 ≤ x.1.2.2.2.2.1.val∧x.1.2.2.2.2.1.val ≤ n'.val∧(x.2.1.length:Int) ≤ 24 * i'.val + x.1.2.2.2.2.1.val) (fun x=>(n'.val - x.1.2.2.2.2.1.val).toNat) ?_ ⟨rfl,rfl,rfl,by show 0 ≤ (I.of .i64 0).val; decide,by show (I.of .i64 0).val ≤ n'.val; omega,by show (out'.length:Int) ≤ 24 * i'.val + (I.of .i64 0).val; omega⟩ (by rw [a7S]; show (n'.val - (I.of .i64 0).val).toNat < _; omega)
      rintro ⟨⟨l2,i2,y2,n2,j,⟨⟩⟩,out2,⟨⟩⟩ ⟨e1,e2,e3,hj0,hj1,ho2⟩
      simp only at e1 e2 e3 hj0 hj1 ho2
      subst e1 e2 e3
      refine Wp.brn (fun h=>?_) (fun h=>?_)
      ·
       have h:=iff_ltb.1 h
       simp only at h
       have hj:(I.add j (I.of .i64 1)).val = j.val + 1:=by rw [a5N (by omega)]; omega
       refine Wp.brnT (iff_fits.2 ?_) ?_
       ·
        show (a2B out2 [_]).length ≤ _
        rw [b6G]; omega
       ·
        refine Wp.again ⟨rfl,rfl,rfl,?_,?_,?_⟩ ?_
        ·
         show 0 ≤ (I.add j (I.of .i64 1)).val; omega
        ·
         show (I.add j (I.of .i64 1)).val ≤ _; omega
        ·
         show ((a2B out2 [_]).length:Int) ≤ _ + (I.add j (I.of .i64 1)).val
         rw [b6G]; omega
        ·
         show (_ - (I.add j (I.of .i64 1)).val).toNat < _
         simp only; omega
      ·
       refine Wp.done (Wp.again ⟨rfl,?_,?_,?_⟩ ?_)
       ·
        show 0 ≤ (I.add i2 (I.of .i64 1)).val; omega
       ·
        show (I.add i2 (I.of .i64 1)).val ≤ _; omega
       ·
        show (out2.length:Int) ≤ 24 * (I.add i2 (I.of .i64 1)).val; omega
       ·
        show (_ - (I.add i2 (I.of .i64 1)).val).toNat < _
        simp only; omega
     ·
      refine Wp.jn (fun x=>x.1.1 = l'∧x.1.2.1 = i'∧x.1.2.2.1 = y'∧x.1.2.2.2.1 = n'∧x.2.1 = out') ?_ ?_
      ·
       rintro ⟨⟨l3,i3,y3,n3,b3,⟨⟩⟩,out3,⟨⟩⟩ ⟨e1,e2,e3,e4,e5⟩
       simp only at e1 e2 e3 e4 e5
       subst e1 e2 e3 e4 e5
       refine Wp.brn (fun _=>?_) (fun _=>?_)
       ·
        refine Wp.jn (fun x=>x.1.1 = l3∧x.1.2.1 = i3∧x.1.2.2.1 = n3∧x.2.1 = out3∧0 ≤ x.1.2.2.2.1.val∧x.1.2.2.2.1.val ≤ 24 * (l3.length:Int)) ?_ ?_
        ·
         rintro ⟨⟨l4,i4,n4,fr,⟨⟩⟩,out4,⟨⟩⟩ ⟨e1,e2,e4,e5,hf0,hf1⟩
         simp only at e1 e2 e4 e5 hf0 hf1
         subst e1 e2 e4 e5
         refine Wp.iter (fun x=>x.1.1 = l4∧x.1.2.1 = i4∧x.1.2.2.1 = n4∧x.1.2.2.2.1 = fr∧0 ≤ x.1.2.2.2.2.1.val∧x.1.2.2.2.2.1.val ≤ n4.val∧(x.2.1.length:Int) ≤ 24 * i4.val + x.1.2.2.2.2.1.val) (fun x=>(n4.val - x.1.2.2.2.2.1.val).toNat) ?_ ⟨rfl,rfl,rfl,rfl,by show 0 ≤ (I.of .i64 0).val; decide,by show (I.of .i64 0).val ≤ n4.val; omega,by show (out4.length:Int) ≤ 24 * i4.val + (I.of .i64 0).val; omega⟩ (by rw [a7S]; show (n4.val - (I.of .i64 0).val).toNat < _; omega)
         rintro ⟨⟨l2,i2,n2,f2,j,⟨⟩⟩,out2,⟨⟩⟩ ⟨e1,e2,e3,e4,hj0,hj1,ho2⟩
         simp only at e1 e2 e3 e4 hj0 hj1 ho2
         subst e1 e2 e3 e4
         have o1:0 ≤ (I.add i2 (I.of .i64 1)).val:=by omega
         have o2:(I.add i2 (I.of .i64 1)).val ≤ (l2.length:Int):=by omega
         have o3:(out2.length:Int) ≤ 24 * (I.add i2 (I.of .i64 1)).val:=by omega
         have o4:((l2.length:Int) - (I.add i2 (I.of .i64 1)).val).toNat < ((l2.length:Int) - i2.val).toNat:=by omega
         refine Wp.brn (fun h=>?_) (fun h=>Wp.done (Wp.again ⟨rfl,o1,o2,o3⟩ o4))
         have h:=iff_ltb.1 h
         simp only at h
         have hj:(I.add j (I.of .i64 1)).val = j.val + 1:=by rw [a5N (by omega)]; omega
         have hfj:(I.add f2 j).val = f2.val + j.val:=by rw [a5N (by omega)]
         have hol:(I.ofNat .i64 (a0I out2)).val = out2.length:=a3H (by show out2.length < _; omega)
         refine Wp.brn (fun h2=>?_) (fun h2=>Wp.done (Wp.again ⟨rfl,o1,o2,o3⟩ o4))
         have h2:=iff_ltb.1 h2
         simp only [hfj,hol] at h2
         refine Wp.brnT (iff_inB.2 ⟨by show 0 ≤ (I.add f2 j).val; omega,by show (I.add f2 j).val < (out2.length:Int); omega⟩) ?_
         refine Wp.brnT (iff_fits.2 ?_) ?_
         ·
          show (a2B out2 [_]).length ≤ _
          rw [b6G]; omega
         ·
          refine Wp.again ⟨rfl,rfl,rfl,rfl,?_,?_,?_⟩ ?_
          ·
           show 0 ≤ (I.add j (I.of .i64 1)).val; omega
          ·
           show (I.add j (I.of .i64 1)).val ≤ _; omega
          ·
           show ((a2B out2 [_]).length:Int) ≤ _ + (I.add j (I.of .i64 1)).val
           rw [b6G]; omega
          ·
           show (_ - (I.add j (I.of .i64 1)).val).toNat < _
           simp only; omega
        ·
         intro j4 hj4
         have hol:(I.ofNat .i64 (a0I out3)).val = out3.length:=a3H (by show out3.length < _; omega)
         refine Wp.brn (fun h=>?_) (fun h=>?_)
         ·
          have h:=iff_ltb.1 h
          simp only [hol] at h
          refine Wp.brnT (iff_nz.2 ?_) ?_
          ·
           show (I.ofNat .i64 (a0I out3)).val ≠ 0
           omega
          ·
           have q64:(I.quo y3 (I.of .i64 64)).val = y3.val / 64:=b9M hy0 (by decide)
           have hr:(I.rem (I.quo y3 (I.of .i64 64)) (I.ofNat .i64 (a0I out3))).val = y3.val / 64 % out3.length:=by rw [b7H (by omega) (by omega),q64,hol]
           refine hj4 _ ⟨rfl,rfl,rfl,rfl,?_,?_⟩
           ·
            show 0 ≤ (I.rem (I.quo y3 (I.of .i64 64)) (I.ofNat .i64 (a0I out3))).val
            rw [hr]
            exact Int.emod_nonneg _ (by omega)
           ·
            show (I.rem (I.quo y3 (I.of .i64 64)) (I.ofNat .i64 (a0I out3))).val ≤ _
            rw [hr]
            have:=Int.emod_lt_of_pos (y3.val / 64) (b:=(out3.length:Int)) (by omega)
            omega
         ·
          refine hj4 _ ⟨rfl,rfl,rfl,rfl,?_,?_⟩
          ·
           show 0 ≤ (I.of .i64 0).val; omega
          ·
           show (I.of .i64 0).val ≤ _; omega
       ·
        refine Wp.iter (fun x=>x.1.1 = l3∧x.1.2.1 = i3∧x.1.2.2.2.1 = n3∧0 ≤ x.1.2.2.2.2.1.val∧x.1.2.2.2.2.1.val ≤ n3.val∧(x.2.1.length:Int) ≤ 24 * i3.val + x.1.2.2.2.2.1.val) (fun x=>(n3.val - x.1.2.2.2.2.1.val).toNat) ?_ ⟨rfl,rfl,rfl,by show 0 ≤ (I.of .i64 0).val; decide,by show (I.of .i64 0).val ≤ n3.val; omega,by show (out3.length:Int) ≤ 24 * i3.val + (I.of .i64 0).val; omega⟩ (by rw [a7S]; show (n3.val - (I.of .i64 0).val).toNat < _; omega)
        rintro ⟨⟨l2,i2,y2,n2,j,⟨⟩⟩,out2,⟨⟩⟩ ⟨e1,e2,e3,hj0,hj1,ho2⟩
        simp only at e1 e2 e3 hj0 hj1 ho2
        subst e1 e2 e3
        refine Wp.brn (fun h=>?_) (fun h=>?_)
        ·
         have h:=iff_ltb.1 h
         simp only at h
         have hj:(I.add j (I.of .i64 1)).val = j.val + 1:=by rw [a5N (by omega)]; omega
         refine Wp.brnT (c3E _) ?_
         refine Wp.brnT (iff_fits.2 ?_) ?_
         ·
          show (a2B out2 [_]).length ≤ _
          rw [b6G]; omega
         ·
          refine Wp.again ⟨rfl,rfl,rfl,?_,?_,?_⟩ ?_
          ·
           show 0 ≤ (I.add j (I.of .i64 1)).val; omega
          ·
           show (I.add j (I.of .i64 1)).val ≤ _; omega
          ·
           show ((a2B out2 [_]).length:Int) ≤ _ + (I.add j (I.of .i64 1)).val
           rw [b6G]; omega
          ·
           show (_ - (I.add j (I.of .i64 1)).val).toNat < _
           simp only; omega
        ·
         refine Wp.done (Wp.again ⟨rfl,?_,?_,?_⟩ ?_)
         ·
          show 0 ≤ (I.add i2 (I.of .i64 1)).val; omega
         ·
          show (I.add i2 (I.of .i64 1)).val ≤ _; omega
         ·
          show (out2.length:Int) ≤ 24 * (I.add i2 (I.of .i64 1)).val; omega
         ·
          show (_ - (I.add i2 (I.of .i64 1)).val).toNat < _
          simp only; omega
      ·
       intro j3 hj3
       refine Wp.brn (fun _=>hj3 _ ⟨rfl,rfl,rfl,rfl,rfl⟩) (fun _=>Wp.brn (fun _=>hj3 _ ⟨rfl,rfl,rfl,rfl,rfl⟩) (fun _=>hj3 _ ⟨rfl,rfl,rfl,rfl,rfl⟩))
    ·
     intro j2 hj2
     exact Wp.brn (fun _=>hj2 _ ⟨rfl,rfl,rfl,rfl,rfl⟩) (fun _=>hj2 _ ⟨rfl,rfl,rfl,rfl,rfl⟩)
   ·
    exact Wp.done ⟨out,rfl,by omega⟩
  ·
   exact ⟨rfl,by show 0 ≤ (I.of .i64 0).val; decide,by show (I.of .i64 0).val ≤ (v.length:Int); omega,by show (([]:List (I .u8)).length:Int) ≤ 24 * (I.of .i64 0).val; simp [c0]⟩
  ·
   rw [a7S]
   show ((v.length:Int) - (I.of .i64 0).val).toNat < _
   omega
 exact key.out
end Sym

/- What is built of numbers; for the law of the gas price's bounds. -/
namespace Sym
open Go
end Sym

/- Natural numbers by digits of 65536: products, and quotients by one digit. -/
namespace Sym
open Go
theorem f1I:∀ (l:List Dg) (i:Nat) (d:Dg),i < l.length→bv (l.set i d) + 65536 ^ i * (rd0 l i).nat = bv l + 65536 ^ i * d.nat
 | [],_,_,h=>by simp at h
 | x :: l,0,d,_=>by simp [bv,rd0,rdL]; omega
 | x :: l,i + 1,d,h=>by
  have ih:=f1I l i d (by simpa using h)
  simp only [List.set_cons_succ,bv,Nat.pow_succ,rd0,rdL] at *
  have e1:65536 ^ i * 65536 * (rdL (I.of .i64 0) l i).nat = 65536 * (65536 ^ i * (rdL (I.of .i64 0) l i).nat):=by rw [Nat.mul_comm (65536 ^ i) 65536,Nat.mul_assoc]
  have e2:65536 ^ i * 65536 * d.nat = 65536 * (65536 ^ i * d.nat):=by rw [Nat.mul_comm (65536 ^ i) 65536,Nat.mul_assoc]
  rw [e1,e2]
  omega
theorem c8S (l:List Dg) (i j:Nat) (d:Dg) (h:i ≠ j):rd0 (l.set i d) j = rd0 l j:=by
 unfold rd0
 rcases Nat.lt_or_ge j l.length with hj | hj
 ·
  rw [a3X _ _ _ (by simpa using hj),a3X _ _ _ hj,List.getElem_set_ne h]
 ·
  rw [c4B _ _ _ (by simpa using hj),c4B _ _ _ hj]
theorem d7Z:∀ (n i:Nat),(rd0 (b8F n (I.of .i64 0)) i).nat = 0
 | 0,i=>rfl
 | n + 1,0=>rfl
 | n + 1,i + 1=>d7Z n i
theorem d7O:∀ (n:Nat),bv (b8F n (I.of .i64 0)) = 0
 | 0=>rfl
 | n + 1=>by simp [b8F,bv,d7O n]; rfl
structure MulInv (a b:List Dg) (i k:Nat) (over:Nat) (out:List Dg):Prop where
 len:out.length = a.length + b.length
 dig:c0J out
 zero:∀ j,i + b.length ≤ j→(rd0 out j).nat = 0
 eq:bv out + 65536 ^ (i + k) * over = bv (a.take i) * bv b + (rd0 a i).nat * 65536 ^ i * bv (b.take k)
theorem f6B {a b:List Dg} {i k over:Nat} {out:List Dg} (h:MulInv a b i k over out) (hi:i < a.length) (hk:k < b.length) (d:Dg) (ov:Nat) (hd:DigOk d)
  (hs:d.nat + 65536 * ov = over + (rd0 out (i + k)).nat + (rd0 a i).nat * (rd0 b k).nat):MulInv a b i (k + 1) ov (out.set (i + k) d):=by
 refine ⟨by simpa using h.len,c2J h.dig _ hd,fun j hj=>?_,?_⟩
 ·
  rw [c8S _ _ _ _ (by omega)]; exact h.zero j hj
 ·
  have hset:=f1I out (i + k) d (by rw [h.len]; omega)
  have heq:=h.eq
  rw [c5H b k]
  have e1:(rd0 a i).nat * 65536 ^ i * (bv (b.take k) + 65536 ^ k * (rd0 b k).nat) = (rd0 a i).nat * 65536 ^ i * bv (b.take k) + 65536 ^ (i + k) * ((rd0 a i).nat * (rd0 b k).nat):=by
   rw [Nat.mul_add,Nat.pow_add]
   congr 1
   simp only [Nat.mul_comm,Nat.mul_left_comm,Nat.mul_assoc]
  have e2:65536 ^ (i + (k + 1)) * ov = 65536 ^ (i + k) * (65536 * ov):=by rw [← Nat.add_assoc,Nat.pow_succ,Nat.mul_assoc]
  have e3:=congrArg (fun t=>65536 ^ (i + k) * t) hs
  simp only [Nat.mul_add] at e3
  rw [e1,e2]
  omega
theorem f6X {a b:List Dg} {i over:Nat} {out:List Dg} (h:MulInv a b i b.length over out) (hi:i < a.length) (d:Dg) (hd:DigOk d) (hv:d.nat = over):MulInv a b (i + 1) 0 0 (out.set (i + b.length) d):=by
 refine ⟨by simpa using h.len,c2J h.dig _ hd,fun j hj=>?_,?_⟩
 ·
  rw [c8S _ _ _ _ (by omega)]; exact h.zero j (by omega)
 ·
  have hset:=f1I out (i + b.length) d (by rw [h.len]; omega)
  have hz:=h.zero (i + b.length) (Nat.le_refl _)
  have heq:=h.eq
  rw [hz,Nat.mul_zero,Nat.add_zero,hv] at hset
  rw [List.take_length] at heq
  rw [c5H a i,Nat.add_mul]
  have e:65536 ^ i * (rd0 a i).nat * bv b = (rd0 a i).nat * 65536 ^ i * bv b:=by rw [Nat.mul_comm (65536 ^ i)]
  simp only [List.take_zero,bv,Nat.mul_zero,Nat.add_zero]
  rw [e]
  omega
theorem b2L {a b:List Dg} {m n:Nat} (ha:IsB a m) (hb:IsB b n) (hal:a.length ≤ 1000000) (hbl:b.length ≤ 1000000):∃ r,a1W K0 ((a,b,()),()) = some ((r,()),())∧IsB r (m * n):=by
 have hol:(I.ofNat .i64 (a0I a)).val = a.length:=a3H (by show a.length < _; omega)
 have hol2:(I.ofNat .i64 (a0I b)).val = b.length:=a3H (by show b.length < _; omega)
 have c0:(I.of .i64 0).val = 0:=rfl
 have c1:(I.of .i64 1).val = 1:=rfl
 have hadd:(I.add (I.ofNat .i64 (a0I a)) (I.ofNat .i64 (a0I b))).val = a.length + b.length:=by rw [a5N (by omega),hol,hol2]
 have hn:I.nat (I.add (I.ofNat .i64 (a0I a)) (I.ofNat .i64 (a0I b))) = a.length + b.length:=by unfold I.nat; omega
 have key:Wp (fun o=>∃ r,o = some ((r,()),())∧IsB r (m * n)) (a1W K0 ((a,b,()),())):=by
  unfold a1W
  refine Wp.brnT ?_ (Wp.brnT ?_ ?_)
  ·
   show (decide (0 ≤ (I.add (I.ofNat .i64 (a0I a)) (I.ofNat .i64 (a0I b))).val) && decide ((I.add (I.ofNat .i64 (a0I a)) (I.ofNat .i64 (a0I b))).val ≤ ((I.nat (I.add (I.ofNat .i64 (a0I a)) (I.ofNat .i64 (a0I b))):Nat):Int))) = true
   rw [hn,hadd]; simp; omega
  ·
   show (decide (0 ≤ (I.add (I.ofNat .i64 (a0I a)) (I.ofNat .i64 (a0I b))).val) && decide ((I.add (I.ofNat .i64 (a0I a)) (I.ofNat .i64 (a0I b))).val ≤ ((1073741824:Nat):Int))) = true
   rw [hadd]; simp; omega
  refine Wp.iter (fun x=>x.1.1 = a∧x.1.2.1 = b∧0 ≤ x.1.2.2.1.val∧x.1.2.2.1.val ≤ (a.length:Int)∧MulInv a b x.1.2.2.1.val.toNat 0 0 x.2.1) (fun x=>((a.length:Int) - x.1.2.2.1.val).toNat) ?_ ?_ ?_
  ·
   rintro ⟨⟨a',b',i,⟨⟩⟩,out0,⟨⟩⟩ ⟨e1,e2,hi0,hi1,hI⟩
   simp only at e1 e2 hi0 hi1 hI
   subst e1 e2
   refine Wp.brn (fun h=>?_) (fun h=>?_)
   ·
    have hlt:=iff_ltb.1 h
    simp only [hol] at hlt
    clear h
    have si:(I.add i (I.of .i64 1)).val = i.val + 1:=by rw [a5N (by omega)]; omega
    have sin:(I.add i (I.of .i64 1)).val.toNat = i.val.toNat + 1:=by omega
    have hmi:((a'.length:Int) - (I.add i (I.of .i64 1)).val).toNat < ((a'.length:Int) - i.val).toNat:=by omega
    refine Wp.iter (fun x=>x.1.1 = a'∧x.1.2.1 = b'∧x.1.2.2.1 = i∧0 ≤ x.1.2.2.2.1.val∧x.1.2.2.2.1.val < 65536∧0 ≤ x.1.2.2.2.2.1.val∧x.1.2.2.2.2.1.val ≤ (b'.length:Int)∧MulInv a' b' i.val.toNat x.1.2.2.2.2.1.val.toNat (I.nat (k:=.i64) x.1.2.2.2.1) x.2.1) (fun x=>((b'.length:Int) - x.1.2.2.2.2.1.val).toNat) ?_ ?_ ?_
    ·
     rintro ⟨⟨a2,b2,i2,over,k,⟨⟩⟩,out,⟨⟩⟩ ⟨e1,e2,e3,ho0,ho1,hk0,hk1,hinv⟩
     simp only at e1 e2 e3 ho0 ho1 hk0 hk1 hinv
     subst e1 e2 e3
     have hlen:=hinv.len
     refine Wp.brn (fun h=>?_) (fun h=>?_)
     ·
      have hkl:=iff_ltb.1 h
      simp only [hol2] at hkl
      clear h
      have sk:(I.add k (I.of .i64 1)).val = k.val + 1:=by rw [a5N (by omega)]; omega
      have skn:(I.add k (I.of .i64 1)).val.toNat = k.val.toNat + 1:=by omega
      have sik:(I.add i2 k).val = i2.val + k.val:=a5N (by omega)
      have nik:I.nat (I.add i2 k) = i2.val.toNat + k.val.toNat:=by unfold I.nat; omega
      have hmk:((b2.length:Int) - (I.add k (I.of .i64 1)).val).toNat < ((b2.length:Int) - k.val).toNat:=by omega
      have bik:inB (I.add i2 k) (a0I out) = true:=iff_inB.2 ⟨by omega,by show (I.add i2 k).val < ((out.length:Nat):Int); omega⟩
      refine Wp.brnT bik (Wp.brnT (iff_inB.2 ⟨hi0,by show i2.val < ((a2.length:Nat):Int); omega⟩) (Wp.brnT (iff_inB.2 ⟨hk0,by show k.val < ((b2.length:Nat):Int); omega⟩) (Wp.brnT bik ?_)))
      have da:=b5E ha.dig i2.val.toNat
      have db:=b5E hb.dig k.val.toNat
      have dq:=b5E hinv.dig (i2.val.toNat + k.val.toNat)
      have na:=da.nat
      have nb:=db.nat
      have nq:=dq.nat
      unfold DigOk at da db dq
      have hprod:(rd0 a2 i2.val.toNat).val * (rd0 b2 k.val.toNat).val = (((rd0 a2 i2.val.toNat).nat * (rd0 b2 k.val.toNat).nat:Nat):Int):=by rw [Int.natCast_mul,na.1,nb.1]
      have hple:(rd0 a2 i2.val.toNat).nat * (rd0 b2 k.val.toNat).nat ≤ 65535 * 65535:=Nat.mul_le_mul (by omega) (by omega)
      have hm1:(I.mul (rd0 a2 i2.val.toNat) (rd0 b2 k.val.toNat)).val = (((rd0 a2 i2.val.toNat).nat * (rd0 b2 k.val.toNat).nat:Nat):Int):=by rw [c4O (by rw [hprod]; omega),hprod]
      have hs1:(I.add over (rd0 out (i2.val.toNat + k.val.toNat))).val = over.val + (rd0 out (i2.val.toNat + k.val.toNat)).val:=a5N (by omega)
      have hs2:(I.add (I.add over (rd0 out (i2.val.toNat + k.val.toNat))) (I.mul (rd0 a2 i2.val.toNat) (rd0 b2 k.val.toNat))).val = over.val + (rd0 out (i2.val.toNat + k.val.toNat)).val + (((rd0 a2 i2.val.toNat).nat * (rd0 b2 k.val.toNat).nat:Nat):Int):=by rw [a5N (by rw [hs1,hm1]; omega),hs1,hm1]
      generalize hS:I.add (I.add over (rd0 out (i2.val.toNat + k.val.toNat))) (I.mul (rd0 a2 i2.val.toNat) (rd0 b2 k.val.toNat)) = s at hs2
      have hsh:=c8M s (by omega)
      have han:=e2Y s (by omega)
      have hdig:DigOk (I.and s (I.of .i64 65535)):=by unfold DigOk; omega
      have hon:(over.nat:Int) = over.val:=by unfold I.nat; omega
      have st:=f6B hinv (by omega) (by omega) (I.and s (I.of .i64 65535)) (I.shr s (I.of .u64 16)).nat hdig (by
       have h1:=hdig.nat
       have h2:((I.shr s (I.of .u64 16)).nat:Int) = (I.shr s (I.of .u64 16)).val:=by unfold I.nat; omega
       omega)
      refine Wp.again ⟨rfl,rfl,rfl,?_,?_,?_,?_,?_⟩ hmk
      ·
       show 0 ≤ (I.shr (I.add (I.add over (rd0 out (I.nat (I.add i2 k)))) (I.mul (rd0 a2 (I.nat i2)) (rd0 b2 (I.nat k)))) (I.of .u64 16)).val
       rw [nik]
       show 0 ≤ (I.shr (I.add (I.add over (rd0 out (i2.val.toNat + k.val.toNat))) (I.mul (rd0 a2 i2.val.toNat) (rd0 b2 k.val.toNat))) (I.of .u64 16)).val
       rw [hS]; omega
      ·
       show (I.shr (I.add (I.add over (rd0 out (I.nat (I.add i2 k)))) (I.mul (rd0 a2 (I.nat i2)) (rd0 b2 (I.nat k)))) (I.of .u64 16)).val < 65536
       rw [nik]
       show (I.shr (I.add (I.add over (rd0 out (i2.val.toNat + k.val.toNat))) (I.mul (rd0 a2 i2.val.toNat) (rd0 b2 k.val.toNat))) (I.of .u64 16)).val < 65536
       rw [hS]; omega
      ·
       show 0 ≤ (I.add k (I.of .i64 1)).val; omega
      ·
       show (I.add k (I.of .i64 1)).val ≤ _; omega
      ·
       show MulInv a2 b2 i2.val.toNat (I.add k (I.of .i64 1)).val.toNat (I.nat (I.shr (I.add (I.add over (rd0 out (I.nat (I.add i2 k)))) (I.mul (rd0 a2 (I.nat i2)) (rd0 b2 (I.nat k)))) (I.of .u64 16))) (setAt out (I.nat (I.add i2 k)) (I.and (I.add (I.add over (rd0 out (I.nat (I.add i2 k)))) (I.mul (rd0 a2 (I.nat i2)) (rd0 b2 (I.nat k)))) (I.of .i64 65535)))
       rw [nik,skn,a6Q]
       show MulInv a2 b2 i2.val.toNat (k.val.toNat + 1) (I.nat (I.shr (I.add (I.add over (rd0 out (i2.val.toNat + k.val.toNat))) (I.mul (rd0 a2 i2.val.toNat) (rd0 b2 k.val.toNat))) (I.of .u64 16))) (out.set (i2.val.toNat + k.val.toNat) (I.and (I.add (I.add over (rd0 out (i2.val.toNat + k.val.toNat))) (I.mul (rd0 a2 i2.val.toNat) (rd0 b2 k.val.toNat))) (I.of .i64 65535)))
       rw [hS]; exact st
     ·
      have h:=niff_ltb.1 h
      simp only [hol2] at h
      have hk:k.val.toNat = b2.length:=by omega
      rw [hk] at hinv
      have sib:(I.add i2 (I.ofNat .i64 (a0I b2))).val = i2.val + b2.length:=by rw [a5N (by omega),hol2]
      have nib:I.nat (I.add i2 (I.ofNat .i64 (a0I b2))) = i2.val.toNat + b2.length:=by unfold I.nat; omega
      refine Wp.done (Wp.brnT (iff_inB.2 ⟨by show 0 ≤ (I.add i2 (I.ofNat .i64 (a0I b2))).val; omega,by show (I.add i2 (I.ofNat .i64 (a0I b2))).val < ((out.length:Nat):Int); omega⟩) ?_)
      have st:=f6X hinv (by omega) over ⟨ho0,ho1⟩ rfl
      refine Wp.again ⟨rfl,rfl,?_,?_,?_⟩ hmi
      ·
       show 0 ≤ (I.add i2 (I.of .i64 1)).val; omega
      ·
       show (I.add i2 (I.of .i64 1)).val ≤ _; omega
      ·
       show MulInv a2 b2 (I.add i2 (I.of .i64 1)).val.toNat 0 0 (setAt out (I.nat (I.add i2 (I.ofNat .i64 (a0I b2)))) over)
       rw [sin,nib,a6Q]
       exact st
    ·
     refine ⟨rfl,rfl,rfl,by show 0 ≤ (I.of .i64 0).val; decide,by show (I.of .i64 0).val < 65536; decide,by show 0 ≤ (I.of .i64 0).val; decide,by show (I.of .i64 0).val ≤ (b'.length:Int); omega,?_⟩
     exact hI
    ·
     exact b8C _ (by show ((b'.length:Int) - (I.of .i64 0).val).toNat < _; omega)
   ·
    have h:=niff_ltb.1 h
    simp only [hol] at h
    have hi:i.val.toNat = a'.length:=by omega
    rw [hi] at hI
    have heq:=hI.eq
    rw [List.take_length,Nat.mul_zero,Nat.add_zero,List.take_zero] at heq
    have hlen:=hI.len
    obtain ⟨r,hr,hB⟩:=d6W out0 hI.dig (by omega)
    refine Wp.done (Wp.optF hr ⟨r,rfl,hB.dig,hB.lead,?_⟩)
    rw [hB.val,heq,ha.val,hb.val]
    simp [bv]
  ·
   refine ⟨rfl,rfl,by show 0 ≤ (I.of .i64 0).val; decide,by show (I.of .i64 0).val ≤ (a.length:Int); omega,?_⟩
   show MulInv a b (I.of .i64 0).val.toNat 0 0 (b8F (I.nat (I.add (I.ofNat .i64 (a0I a)) (I.ofNat .i64 (a0I b)))) (I.of .i64 0))
   rw [hn]
   refine ⟨b2E _ _,c2E _,fun j _=>d7Z _ _,?_⟩
   have e:(I.of .i64 0).val.toNat = 0:=rfl
   rw [d7O,e]
   simp [bv]
  ·
   exact b8C _ (by show ((a.length:Int) - (I.of .i64 0).val).toNat < _; omega)
 exact key.out
end Sym

/- The law of the gas price and of cover. -/
namespace Sym
open Go
theorem top_pow':U.top = 65536 ^ 16:=by decide
theorem a6P {l:List Dg} {n:Nat} (h:IsB l n) (hn:n < 65536 ^ 64):l.length ≤ 1000000:=Nat.le_trans (h.len.2 hn) (by decide)
theorem b4S {n:Nat} (h:n < U.top + U.top):n < 65536 ^ 64:=Nat.lt_trans h (by decide)
theorem g4T {n:Nat} (h:n < U.top * U.top + U.top):n < 65536 ^ 64:=Nat.lt_trans h (by decide)
theorem f1T {a b:List Dg} {m n:Nat} (ha:IsB a m) (hb:IsB b n) (hal:a.length ≤ 1000000) (hbl:b.length ≤ 1000000):∃ r,a4J K0 ((a,b,()),()) = some ((r,()),())∧IsB r (min m n):=by
 have key:Wp (fun o=>∃ r,o = some ((r,()),())∧IsB r (min m n)) (a4J K0 ((a,b,()),())):=by
  unfold a4J
  refine Wp.optF (c4L ha hb hal hbl) ?_
  unfold c3J
  rcases Nat.lt_trichotomy m n with h | h | h
  ·
   rw [if_pos h]
   exact Wp.brnF rfl ⟨a,rfl,by rw [Nat.min_eq_left (by omega)]; exact ha⟩
  ·
   rw [if_neg (by omega),if_neg (by omega)]
   exact Wp.brnF rfl ⟨a,rfl,by rw [Nat.min_eq_left (by omega)]; exact ha⟩
  ·
   rw [if_neg (by omega),if_pos h]
   exact Wp.brnT rfl ⟨b,rfl,by rw [Nat.min_eq_right (by omega)]; exact hb⟩
 exact key.out
theorem f9B (f1 f2 f3 f5 f8 f9) (v c t base:U) (h:base.val ≤ c.val):∃ r,a8U K0 (((f1,f2,f3,v,f5,c,t,f8,f9,()),base,()),()) = some ((r,()),())∧IsB r (min t.val (c.val - base.val)):=by
 have hc:=c.lt
 have ht:=t.lt
 have key:Wp (fun o=>∃ r,o = some ((r,()),())∧IsB r (min t.val (c.val - base.val))) (a8U K0 (((f1,f2,f3,v,f5,c,t,f8,f9,()),base,()),())):=by
  unfold a8U
  obtain ⟨l0,e0,b0⟩:=a1E t
  obtain ⟨l1,e1,b1⟩:=a1E c
  obtain ⟨l2,e2,b2⟩:=a1E base
  refine Wp.optF e0 (Wp.optF e1 (Wp.optF e2 ?_))
  obtain ⟨l3,e3,b3⟩:=c7D b1 b2 h (a6P b1 (b4S (by omega)))
  refine Wp.optF e3 ?_
  obtain ⟨l4,e4,b4⟩:=f1T b0 b3 (a6P b0 (b4S (by omega))) (a6P b3 (b4S (by omega)))
  exact Wp.optF e4 ⟨l4,rfl,b4⟩
 exact key.out
theorem g1N (f1 f2 f3 f5 f8 f9) (v c t base:U):a8X K0 (((f1,f2,f3,v,f5,c,t,f8,f9,()),base,()),()) = some (((d1M (c,t) base).1,(d1M (c,t) base).2,()),()):=by
 refine Wp.out (T:=fun o=>o = some (((d1M (c,t) base).1,(d1M (c,t) base).2,()),())) ?_
 have hc:=c.lt
 have hb:=base.lt
 unfold a8X d1M
 obtain ⟨l1,e1,b1⟩:=a1E c
 obtain ⟨l2,e2,b2⟩:=a1E base
 refine Wp.optF e1 (Wp.optF e2 ?_)
 refine Wp.optF (c4L b1 b2 (a6P b1 (b4S (by omega))) (a6P b2 (b4S (by omega)))) ?_
 by_cases h:base.val ≤ c.val
 ·
  rw [if_pos h]
  refine Wp.brnF ?_ ?_
  ·
   show I.ltb (c3J _ _) (I.of .i64 0) = false
   unfold c3J
   rw [if_neg (by omega)]
   split <;> rfl
  refine Wp.optF e2 ?_
  obtain ⟨l3,e3,b3⟩:=f9B f1 f2 f3 f5 f8 f9 v c t base h
  refine Wp.optF e3 ?_
  obtain ⟨l4,e4,b4⟩:=b2F b2 b3 (a6P b2 (b4S (by omega))) (a6P b3 (b4S (by omega)))
  refine Wp.optF e4 ?_
  refine Wp.optF (Checked_ok' b4 (a6P b4 (b4S (by omega)))) ?_
  rw [show c3R (base.val + min t.val (c.val - base.val)) = (U.of (base.val + min t.val (c.val - base.val)),I.of .i64 0) from if_pos (by omega)]
  rfl
 ·
  rw [if_neg h]
  refine Wp.brnT ?_ rfl
  show I.ltb (c3J _ _) (I.of .i64 0) = true
  unfold c3J
  rw [if_pos (by omega)]; rfl
def c9I (lim:I .u64) (price value bal:U):Bool:=decide (lim.nat * price.val + value.val ≤ bal.val)
theorem g1D (f1 f2 f3 f5 f8:I .u64) (f9:List (I .u8)) (v c t price bal:U):b0Q K0 (((f1,f2,f3,v,f5,c,t,f8,f9,()),price,bal,()),()) = some ((c9I f5 price v bal,()),()):=by
 have hbal:=bal.lt
 have hp:=price.lt
 have hv:=v.lt
 have hf:I.nat f5 < U.top:=by
  have:=a3I f5
  have:U.top = 115792089237316195423570985008687907853269984665640564039457584007913129639936:=rfl
  omega
 have hm:I.nat f5 * price.val < U.top * U.top:=by
  have h1:I.nat f5 * price.val ≤ (U.top - 1) * (U.top - 1):=Nat.mul_le_mul (by omega) (by omega)
  exact Nat.lt_of_le_of_lt h1 (by decide)
 refine Wp.out (T:=fun o=>o = some ((c9I f5 price v bal,()),())) ?_
 unfold b0Q c9I
 obtain ⟨l0,e0,b0⟩:=a1K f5
 obtain ⟨l1,e1,b1⟩:=a1E price
 refine Wp.optF e0 (Wp.optF e1 ?_)
 obtain ⟨l2,e2,b2⟩:=b2L b0 b1 (a6P b0 (b4S (by omega))) (a6P b1 (b4S (by omega)))
 refine Wp.optF e2 ?_
 obtain ⟨l3,e3,b3⟩:=a1E v
 refine Wp.optF e3 ?_
 obtain ⟨l4,e4,b4⟩:=b2F b2 b3 (a6P b2 (g4T (by omega))) (a6P b3 (b4S (by omega)))
 refine Wp.optF e4 ?_
 obtain ⟨l5,e5,b5⟩:=a1E bal
 refine Wp.optF e5 ?_
 refine Wp.optF (c4L b5 b4 (a6P b5 (b4S (by omega))) (a6P b4 (g4T (by omega)))) ?_
 show some ((I.leb (I.of .i64 0) (c3J bal.val (I.nat f5 * price.val + v.val)),()),()) = _
 unfold c3J
 by_cases h3:I.nat f5 * price.val + v.val ≤ bal.val
 ·
  rw [if_neg (by omega),decide_eq_true h3]
  split <;> rfl
 ·
  rw [if_pos (by omega),decide_eq_false h3]; rfl
end Sym

/- Signed numbers of 256 bits: what the program's functions compute, told of whole numbers. -/
namespace Sym
open Go
abbrev S:Type:=Bool × U × Unit
def S.int (x:S):Int:=if x.1 then -(x.2.1.val:Int) else x.2.1.val
def S.of (z:Int):S:=(decide (z < 0),U.of z.natAbs,())
def a9F (x:S):Bool:=!(x.1 && decide (x.2.1.val = 0))
theorem S.abs (x:S):x.int.natAbs = x.2.1.val:=by
 unfold S.int
 split <;> omega
theorem S.of_valid {z:Int} (h:z.natAbs < U.top):a9F (S.of z) = true:=by
 unfold S.of a9F
 simp only [U.val_of h]
 by_cases hz:z < 0
 ·
  simp [hz]; omega
 ·
  simp [hz]
theorem S.lt (x:S):x.int.natAbs < U.top:=by rw [S.abs]; exact U.lt _
def g3P (z:Int):S × I .i64:=if z.natAbs < U.top then (S.of z,I.of .i64 0) else (S.of 0,I.of .i64 4)
theorem eqz (a:U):Ty.eqb (.arr 4 (.int .u64)) a (I.of .u64 0,I.of .u64 0,I.of .u64 0,I.of .u64 0,()) = decide (a.val = 0):=e4Y a (U.of 0)
def sgn (n:Bool) (m:Nat):Int:=if n then -(m:Int) else m
theorem e3I {z:Int} (h:z.natAbs < U.top):g3P z = (S.of z,I.of .i64 0):=if_pos h
theorem f9Y {z:Int} (h:U.top ≤ z.natAbs):g3P z = (S.of 0,I.of .i64 4):=if_neg (by omega)
end Sym

/- Signed numbers of 256 bits: differences, products, quotients, order. -/
namespace Sym
open Go
theorem g1H (n m:Bool) (a b:Nat):sgn n a * sgn m b = sgn (!(n == m)) (a * b):=by
 unfold sgn
 cases n <;> cases m <;> simp [Int.neg_mul,Int.mul_neg]
theorem f3B (n:Bool) (a:Nat):(sgn n a).natAbs = a:=by unfold sgn; cases n <;> simp
theorem g3B (a d:Nat) (hd:0 < d):-(a:Int) / (d:Int) = if a % d = 0 then -((a / d:Nat):Int) else -((a / d + 1:Nat):Int):=by
 have h1:=Nat.div_add_mod a d
 have h2:=Nat.mod_lt a hd
 have h1':(d:Int) * ((a / d:Nat):Int) + ((a % d:Nat):Int) = (a:Int):=by rw [← Int.natCast_mul]; omega
 by_cases h:a % d = 0
 ·
  rw [if_pos h]
  refine ((Int.ediv_emod_unique (r:=0) (by omega)).2 ⟨?_,by omega,by omega⟩).1
  rw [h] at h1'
  rw [Int.mul_neg]
  simp only [Int.ofNat_zero] at h1'
  omega
 ·
  rw [if_neg h]
  refine ((Int.ediv_emod_unique (r:=(d:Int) - ((a % d:Nat):Int)) (by omega)).2 ⟨?_,by omega,by omega⟩).1
  rw [Int.natCast_add,Int.mul_neg,Int.mul_add,show ((1:Nat):Int) = 1 from rfl,Int.mul_one]
  omega
def d5S (a:U) (y:S):U × I .i64:=if a9F y then (if (a.val:Int) + y.int < 0 then (U.of 0,I.of .i64 0) else c3R ((a.val:Int) + y.int).toNat) else (U.of 0,I.of .i64 2)
end Sym

/- Signed numbers: what the reference's functions compute; two laws. -/
namespace Sym
open Go
abbrev SB:Type:=Bool × List Dg × Unit
structure IsSB (s:SB) (z:Int):Prop where
 neg:s.1 = decide (z < 0)
 abs:IsB s.2.1 z.natAbs
def Bd (n:Nat):Prop:=n < 65536 ^ 64
theorem len_small' {l:List Dg} {n:Nat} (h:IsB l n) (k:Nat) (hn:n < 65536 ^ k) (hk:k ≤ 1000000):l.length ≤ 1000000:=Nat.le_trans (h.len.2 hn) hk
theorem Bd.len {l:List Dg} {n:Nat} (h:IsB l n) (hb:Bd n):l.length ≤ 1000000:=len_small' h 64 hb (by decide)
theorem Bd.of_top {n:Nat} (h:n < U.top):Bd n:=Nat.lt_trans h (by decide)
theorem Bd.of_two {n:Nat} (h:n < U.top + U.top):Bd n:=Nat.lt_trans h (by decide)
theorem f1C {l:List Dg} {n:Nat} (h:IsB l n):0 < l.length ↔ n ≠ 0:=by
 have:=h.len (k:=0)
 rw [Nat.pow_zero] at this
 omega
theorem b7I (n:Bool) {l:List Dg} {m:Nat} (h:IsB l m) (hl:l.length ≤ 1000000):∃ s:SB,a2L K0 ((n,l,()),()) = some ((s,()),())∧IsSB s (sgn n m):=by
 have key:Wp (fun o=>∃ s:SB,o = some ((s,()),())∧IsSB s (sgn n m)) (a2L K0 ((n,l,()),())):=by
  have hol:(I.ofNat .i64 (a0I l)).val = l.length:=a3H (by show l.length < _; omega)
  have c0:(I.of .i64 0).val = 0:=rfl
  have hp:=f1C h
  unfold a2L
  cases n with
  | false=>exact Wp.brnF rfl ⟨_,rfl,(decide_eq_false (by unfold sgn; simp)).symm,by rw [f3B]; exact h⟩
  | true =>
   refine Wp.brnT rfl ⟨_,rfl,?_,by rw [f3B]; exact h⟩
   show I.ltb (I.of .i64 0) (I.ofNat .i64 (a0I l)) = decide (sgn true m < 0)
   unfold I.ltb
   rw [c0,hol]
   have:((0:Int) < (l.length:Int)) ↔ sgn true m < 0:=by unfold sgn; simp; omega
   simp only [this]
 exact key.out
theorem c8R (x:S):∃ s:SB,a3D K0 ((x,()),()) = some ((s,()),())∧IsSB s x.int:=by
 have key:Wp (fun o=>∃ s:SB,o = some ((s,()),())∧IsSB s x.int) (a3D K0 ((x,()),())):=by
  unfold a3D
  obtain ⟨l,hl,hB⟩:=a1E x.2.1
  refine Wp.optF hl ?_
  obtain ⟨s,hs,hS⟩:=b7I x.1 hB (Bd.len hB (Bd.of_top (U.lt _)))
  exact Wp.optF hs ⟨s,rfl,hS⟩
 exact key.out
theorem d7E {s t:SB} {z w:Int} (hs:IsSB s z) (ht:IsSB t w) (hz:Bd z.natAbs) (hw:Bd w.natAbs) (hzw:Bd (z.natAbs + w.natAbs)):∃ r:SB,a7A K0 ((s,t,()),()) = some ((r,()),())∧IsSB r (z + w):=by
 have key:Wp (fun o=>∃ r:SB,o = some ((r,()),())∧IsSB r (z + w)) (a7A K0 ((s,t,()),())):=by
  obtain ⟨n,l,⟨⟩⟩:=s
  obtain ⟨m,l2,⟨⟩⟩:=t
  obtain ⟨h1,h2⟩:=hs
  obtain ⟨h3,h4⟩:=ht
  simp only at h1 h2 h3 h4
  have len1:=Bd.len h2 hz
  have f6R:=Bd.len h4 hw
  unfold a7A
  by_cases hnm:n = m
  ·
   refine Wp.brnT (by show (n == m) = true; simp [hnm]) ?_
   obtain ⟨r,hr,hB⟩:=b2F h2 h4 len1 f6R
   refine Wp.optF hr ?_
   obtain ⟨q,hq,hQ⟩:=b7I n hB (Bd.len hB hzw)
   refine Wp.optF hq ⟨q,rfl,?_⟩
   have:sgn n (z.natAbs + w.natAbs) = z + w:=by
    unfold sgn
    subst hnm
    rw [h1] at h3 ⊢
    by_cases hz0:z < 0
    ·
     have:w < 0:=by simpa [hz0] using h3
     simp [hz0]; omega
    ·
     have:¬ w < 0:=by simpa [hz0] using h3
     simp [hz0]; omega
   rw [← this]; exact hQ
  ·
   refine Wp.brnF (by show (n == m) = false; simp [hnm]) ?_
   refine Wp.optF (c4L h2 h4 len1 f6R) ?_
   have hne:¬ (decide (z < 0) = decide (w < 0)):=by rw [← h1,← h3]; exact hnm
   by_cases hlt:z.natAbs < w.natAbs
   ·
    refine Wp.brnF (by show I.leb (I.of .i64 0) (c3J _ _) = false; unfold c3J; rw [if_pos hlt]; rfl) ?_
    obtain ⟨r,hr,hB⟩:=c7D h4 h2 (by omega) f6R
    refine Wp.optF hr ?_
    obtain ⟨q,hq,hQ⟩:=b7I m hB (Bd.len hB (Nat.lt_of_le_of_lt (Nat.sub_le _ _) hw))
    refine Wp.optF hq ⟨q,rfl,?_⟩
    have:sgn m (w.natAbs - z.natAbs) = z + w:=by
     unfold sgn
     rw [h3]
     by_cases hw0:w < 0
     ·
      have:¬ z < 0:=by simpa [hw0] using hne
      simp [hw0]; omega
     ·
      have:z < 0:=by simpa [hw0] using hne
      simp [hw0]; omega
    rw [← this]; exact hQ
   ·
    refine Wp.brnT (by show I.leb (I.of .i64 0) (c3J _ _) = true; unfold c3J; rw [if_neg hlt]; split <;> rfl) ?_
    obtain ⟨r,hr,hB⟩:=c7D h2 h4 (by omega) len1
    refine Wp.optF hr ?_
    obtain ⟨q,hq,hQ⟩:=b7I n hB (Bd.len hB (Nat.lt_of_le_of_lt (Nat.sub_le _ _) hz))
    refine Wp.optF hq ⟨q,rfl,?_⟩
    have:sgn n (z.natAbs - w.natAbs) = z + w:=by
     unfold sgn
     rw [h1]
     by_cases hz0:z < 0
     ·
      have:¬ w < 0:=by simpa [hz0] using hne
      simp [hz0]; omega
     ·
      have:w < 0:=by simpa [hz0] using hne
      simp [hz0]; omega
    rw [← this]; exact hQ
 exact key.out
theorem c8Y {s:SB} {z:Int} (hs:IsSB s z) (hz:Bd z.natAbs):∃ r:SB,a5U K0 ((s,()),()) = some ((r,()),())∧IsSB r (-z):=by
 have key:Wp (fun o=>∃ r:SB,o = some ((r,()),())∧IsSB r (-z)) (a5U K0 ((s,()),())):=by
  unfold a5U
  obtain ⟨q,hq,hQ⟩:=b7I (!s.1) hs.abs (Bd.len hs.abs hz)
  refine Wp.optF hq ⟨q,rfl,?_⟩
  have:sgn (!s.1) z.natAbs = -z:=by
   rw [hs.neg]
   unfold sgn
   by_cases h:z < 0
   ·
    simp [h]; omega
   ·
    simp [h]; omega
  rw [← this]; exact hQ
 exact key.out
theorem d1E {s:SB} {z:Int} (hs:IsSB s z) (hz:Bd z.natAbs):a7W K0 ((s,()),()) = some (((g3P z).1,(g3P z).2,()),()):=by
 refine Wp.out (T:=fun o=>o = some (((g3P z).1,(g3P z).2,()),())) ?_
 unfold a7W
 refine Wp.optF (Checked_ok' hs.abs (Bd.len hs.abs hz)) ?_
 unfold c3R
 by_cases h:z.natAbs < U.top
 ·
  rw [if_pos h,e3I h]
  refine Wp.brnF rfl ?_
  show some (((s.1,U.of z.natAbs,()),I.of .i64 0,()),()) = some ((((decide (z < 0),U.of z.natAbs,()):S),I.of .i64 0,()),())
  rw [hs.neg]
 ·
  rw [if_neg h,f9Y (by omega)]
  exact Wp.brnT rfl rfl
theorem c2G (a:U):a2E K0 ((a,()),()) = some ((decide (a.val = 0),()),()):=by
 refine Wp.out (T:=fun o=>o = some ((decide (a.val = 0),()),())) ?_
 unfold a2E
 show some ((Ty.eqb (.arr 4 (.int .u64)) a (I.of .u64 0,I.of .u64 0,I.of .u64 0,I.of .u64 0,()),()),()) = _
 rw [eqz]
theorem b8M (x:S):a4O K0 ((x,()),()) = some ((a9F x,()),()):=by
 obtain ⟨n,a,⟨⟩⟩:=x
 refine Wp.out (T:=fun o=>o = some ((a9F (n,a,()),()),())) ?_
 unfold a4O
 cases n with
 | false=>exact Wp.brnF rfl rfl
 | true=>exact Wp.brnT rfl (Wp.optF (c2G a) rfl)
theorem f6U (a b:U):b4C K0 ((a,b,()),()) = some ((S.of ((a.val:Int) - b.val),()),()):=by
 have ha:=a.lt
 have hb:=b.lt
 refine Wp.out (T:=fun o=>o = some ((S.of ((a.val:Int) - b.val),()),())) ?_
 unfold b4C
 obtain ⟨l,hl,hB⟩:=a1E a
 refine Wp.optF hl ?_
 obtain ⟨s,hs,hS⟩:=b7I false hB (Bd.len hB (Bd.of_top ha))
 refine Wp.optF hs ?_
 obtain ⟨l2,hl2,hB2⟩:=a1E b
 refine Wp.optF hl2 ?_
 obtain ⟨s2,hs2,hS2⟩:=b7I true hB2 (Bd.len hB2 (Bd.of_top hb))
 refine Wp.optF hs2 ?_
 have e1:sgn false a.val = (a.val:Int):=rfl
 have e2:sgn true b.val = -(b.val:Int):=rfl
 rw [e1] at hS
 rw [e2] at hS2
 obtain ⟨r,hr,hR⟩:=d7E hS hS2 (Bd.of_top (by omega)) (Bd.of_top (by omega)) (Bd.of_two (by omega))
 refine Wp.optF hr ?_
 rw [show (a.val:Int) + -(b.val:Int) = (a.val:Int) - b.val by omega] at hR
 refine Wp.optF (d1E hR (Bd.of_top (by omega))) ?_
 rw [e3I (by omega)]
 rfl
theorem f2X (a:U) (y:S):a8E K0 ((a,y,()),()) = some (((d5S a y).1,(d5S a y).2,()),()):=by
 have ha:=a.lt
 have hy:=y.lt
 refine Wp.out (T:=fun o=>o = some (((d5S a y).1,(d5S a y).2,()),())) ?_
 unfold a8E d5S
 refine Wp.optF (b8M y) ?_
 cases h1:a9F y with
 | false=>exact Wp.brnT rfl rfl
 | true =>
  rw [if_pos rfl]
  refine Wp.brnF rfl ?_
  obtain ⟨l,hl,hB⟩:=a1E a
  refine Wp.optF hl ?_
  obtain ⟨s,hs,hS⟩:=b7I false hB (Bd.len hB (Bd.of_top ha))
  refine Wp.optF hs ?_
  obtain ⟨s2,hs2,hS2⟩:=c8R y
  refine Wp.optF hs2 ?_
  have e1:sgn false a.val = (a.val:Int):=rfl
  rw [e1] at hS
  obtain ⟨r,hr,hR⟩:=d7E hS hS2 (Bd.of_top (by omega)) (Bd.of_top (by omega)) (Bd.of_two (by omega))
  refine Wp.optF hr ?_
  by_cases hz:(a.val:Int) + y.int < 0
  ·
   rw [if_pos hz]
   refine Wp.brnT (by show r.1 = true; rw [hR.neg]; exact decide_eq_true hz) rfl
  ·
   rw [if_neg hz]
   refine Wp.brnF (by show r.1 = false; rw [hR.neg]; exact decide_eq_false hz) ?_
   have hb:Bd ((a.val:Int) + y.int).natAbs:=Bd.of_two (by omega)
   refine Wp.optF (Checked_ok' hR.abs (Bd.len hR.abs hb)) ?_
   rw [show ((a.val:Int) + y.int).natAbs = ((a.val:Int) + y.int).toNat by omega]
   rfl
end Sym

/- Signed numbers: the laws of order, negation and algebra. -/
namespace Sym
open Go
end Sym

/- Signed numbers: the law of algebra. -/
namespace Sym
open Go
theorem d3G (z:Int) (d:Nat) (hd:d ≠ 0):(z / (d:Int)).natAbs ≤ z.natAbs:=by
 have h1:=Int.mul_ediv_add_emod z d
 have h2:=Int.emod_nonneg z (b:=(d:Int)) (by omega)
 have h3:=Int.emod_lt_of_pos z (b:=(d:Int)) (by omega)
 rcases Int.lt_or_le z 0 with h | h
 ·
  have h4:z / (d:Int) < 0:=by
   rcases Int.lt_or_le (z / (d:Int)) 0 with h7 | h7
   ·
    exact h7
   ·
    have:=Int.mul_nonneg (show (0:Int) ≤ (d:Int) by omega) h7
    omega
  have h5:z ≤ z / (d:Int):=by
   have:(d:Int) * (z / (d:Int)) ≤ 1 * (z / (d:Int)):=Int.mul_le_mul_of_nonpos_right (by omega) (by omega)
   have h6:z - (z % d) = (d:Int) * (z / (d:Int)):=by omega
   rcases Int.lt_or_le (z / (d:Int)) z with h7 | h7
   ·
    exfalso
    have:(d:Int) * (z / (d:Int) + 1) ≤ (d:Int) * z:=Int.mul_le_mul_of_nonneg_left (by omega) (by omega)
    rw [Int.mul_add,Int.mul_one] at this
    have h8:(d:Int) * z ≤ 1 * z:=Int.mul_le_mul_of_nonpos_right (by omega) (by omega)
    omega
   ·
    exact h7
  omega
 ·
  have h4:0 ≤ z / (d:Int):=Int.ediv_nonneg h (by omega)
  have h5:z / (d:Int) ≤ z:=Int.ediv_le_self _ h
  omega
end Sym

/- Signed numbers: the laws of arithmetic. -/
namespace Sym
open Go
theorem g1R {s t:SB} {z w:Int} (hs:IsSB s z) (ht:IsSB t w) (hz:Bd z.natAbs) (hw:Bd w.natAbs) (hzw:Bd (z.natAbs * w.natAbs)):∃ r:SB,b2O K0 ((s,t,()),()) = some ((r,()),())∧IsSB r (z * w):=by
 have key:Wp (fun o=>∃ r:SB,o = some ((r,()),())∧IsSB r (z * w)) (b2O K0 ((s,t,()),())):=by
  unfold b2O
  obtain ⟨l,hl,hB⟩:=b2L hs.abs ht.abs (Bd.len hs.abs hz) (Bd.len ht.abs hw)
  refine Wp.optF hl ?_
  obtain ⟨r,hr,hR⟩:=b7I (!(s.1 == t.1)) hB (Bd.len hB hzw)
  refine Wp.optF hr ⟨r,rfl,?_⟩
  have e1:sgn s.1 z.natAbs = z:=by rw [hs.neg]; unfold sgn; by_cases h:z < 0 <;> simp [h] <;> omega
  have e2:sgn t.1 w.natAbs = w:=by rw [ht.neg]; unfold sgn; by_cases h:w < 0 <;> simp [h] <;> omega
  rw [← g1H,e1,e2] at hR
  exact hR
 exact key.out
theorem g6L (x n:I .i64) (h:0 < n.val):∃ y:I .i64,a7X K0 ((x,n,()),()) = some ((y,()),())∧0 ≤ y.val∧y.val < n.val:=by
 have hn:=b4W n
 have e:(I.conv .u64 n).val = n.val:=b9B ⟨by omega,by omega⟩
 have hx:=a6I (I.conv .u64 x)
 have er:(I.rem (I.conv .u64 x) (I.conv .u64 n)).val = (I.conv .u64 x).val % n.val:=by rw [f0F (by omega),e]
 have h3:=Int.emod_nonneg (I.conv .u64 x).val (b:=n.val) (by omega)
 have h4:=Int.emod_lt_of_pos (I.conv .u64 x).val (b:=n.val) (by omega)
 have ec:(I.conv .i64 (I.rem (I.conv .u64 x) (I.conv .u64 n))).val = (I.conv .u64 x).val % n.val:=by
  show (I.of .i64 _).val = _
  rw [er]
  exact b7M ⟨by omega,by omega⟩
 refine ⟨I.conv .i64 (I.rem (I.conv .u64 x) (I.conv .u64 n)),?_,by omega,by omega⟩
 refine Wp.out (T:=fun o=>o = _) ?_
 unfold a7X
 refine Wp.brnT (iff_nz.2 ?_) rfl
 show (I.conv .u64 n).val ≠ 0
 omega
end Sym

/- Natural numbers by digits of 65536: quotients. -/
namespace Sym
open Go
theorem d5X (l:List Dg) (i:Nat) (d:Dg) (h:i < l.length):rd0 (l.set i d) i = d:=by
 unfold rd0
 rw [a3X _ _ _ (by simpa using h)]
 simp
theorem c2Y (l:List Dg) (i:Nat) (d:Dg):(l.set i d).drop (i + 1) = l.drop (i + 1):=by
 rw [List.drop_set_of_lt (by omega)]
theorem e3O (l:List Dg) (i:Nat) (d:Dg) (h:i < l.length):bv ((l.set i d).drop i) = d.nat + 65536 * bv (l.drop (i + 1)):=by
 rw [b9P,d5X _ _ _ h,c2Y]
structure ShInv (a:List Dg) (d:Nat) (left:Nat) (j:Nat) (q:List Dg):Prop where
 len:q.length = a.length
 dig:c0J q
 lt:left < d
 eq:bv (a.drop j) = bv (q.drop j) * d + left
theorem f9S {a q:List Dg} {d left j x:Nat} (h:ShInv a d left (j + 1) q) (hj:j < a.length) (hx:x = 65536 * left + (rd0 a j).nat) (v:Dg) (hv:v.nat = x / d) (hd:DigOk v) (hd0:0 < d):ShInv a d (x % d) j (q.set j v):=by
 refine ⟨by simpa using h.len,c2J h.dig _ hd,Nat.mod_lt _ hd0,?_⟩
 rw [b9P a j,e3O _ _ _ (by rw [h.len]; exact hj),hv,h.eq,Nat.add_mul,Nat.mul_assoc]
 have h1:=Nat.div_add_mod x d
 rw [Nat.mul_comm] at h1
 rw [Nat.mul_add]
 omega
theorem f4W {a:List Dg} {m:Nat} (ha:IsB a m) (hal:a.length ≤ 1000000) (d:Dg) (hd:DigOk d) (h0:d.val ≠ 0):∃ q r,a9Z K0 ((a,d,()),()) = some ((q,r,()),())∧IsB q (m / d.nat)∧IsB r (m % d.nat):=by
 have hol:(I.ofNat .i64 (a0I a)).val = a.length:=a3H (by show a.length < _; omega)
 have hn:I.nat (I.ofNat .i64 (a0I a)) = a.length:=by unfold I.nat; omega
 have c0:(I.of .i64 0).val = 0:=rfl
 have c1:(I.of .i64 1).val = 1:=rfl
 have cB:(I.of .i64 65536).val = 65536:=rfl
 have dn:=hd.nat
 have hd':=hd
 unfold DigOk at hd'
 have key:Wp (fun o=>∃ q r,o = some ((q,r,()),())∧IsB q (m / d.nat)∧IsB r (m % d.nat)) (a9Z K0 ((a,d,()),())):=by
  unfold a9Z
  refine Wp.brnT ?_ (Wp.brnT ?_ ?_)
  ·
   show (decide (0 ≤ (I.ofNat .i64 (a0I a)).val) && decide ((I.ofNat .i64 (a0I a)).val ≤ ((I.nat (I.ofNat .i64 (a0I a)):Nat):Int))) = true
   rw [hn,hol]; simp
  ·
   show (decide (0 ≤ (I.ofNat .i64 (a0I a)).val) && decide ((I.ofNat .i64 (a0I a)).val ≤ ((1073741824:Nat):Int))) = true
   rw [hol]; simp; omega
  refine Wp.iter (fun x=>x.1.1 = a∧x.1.2.1 = d∧0 ≤ x.1.2.2.1.val∧-1 ≤ x.1.2.2.2.1.val∧x.1.2.2.2.1.val < (a.length:Int)∧ShInv a d.nat (I.nat (k:=.i64) x.1.2.2.1) (x.1.2.2.2.1.val + 1).toNat x.2.1) (fun x=>(x.1.2.2.2.1.val + 1).toNat) ?_ ?_ ?_
  ·
   rintro ⟨⟨a',d',left,i,⟨⟩⟩,q,⟨⟩⟩ ⟨e1,e2,hl0,hi0,hi1,hI⟩
   simp only at e1 e2 hl0 hi0 hi1 hI
   subst e1 e2
   have hlt:=hI.lt
   have hll:(left.nat:Int) = left.val:=by unfold I.nat; omega
   refine Wp.brn (fun h=>?_) (fun h=>?_)
   ·
    have hge:=iff_leb.1 h
    simp only [c0] at hge
    clear h
    have ej:(i.val + 1).toNat = i.val.toNat + 1:=by omega
    rw [ej] at hI
    have da:=b5E ha.dig i.val.toNat
    have na:=da.nat
    unfold DigOk at da
    have hs:(I.sub i (I.of .i64 1)).val = i.val - 1:=by rw [a8B (by omega)]; omega
    have hm1:(I.mul (I.of .i64 65536) left).val = 65536 * left.val:=by rw [c4O (by rw [cB]; omega),cB]
    have hx:(I.add (I.mul (I.of .i64 65536) left) (rd0 a' i.val.toNat)).val = 65536 * left.val + (rd0 a' i.val.toNat).val:=by rw [a5N (by rw [hm1]; omega),hm1]
    generalize hX:I.add (I.mul (I.of .i64 65536) left) (rd0 a' i.val.toNat) = x at hx
    have hxn:(x.nat:Int) = x.val:=by unfold I.nat; omega
    have hq:(I.quo x d').val = x.val / d'.val:=b9M (by omega) (by omega)
    have hr:(I.rem x d').val = x.val % d'.val:=b7H (by omega) (by omega)
    have hq2:x.val / d'.val = ((x.nat / d'.nat:Nat):Int):=by rw [Int.natCast_ediv,hxn,dn.1]
    have hr2:x.val % d'.val = ((x.nat % d'.nat:Nat):Int):=by rw [Int.natCast_emod,hxn,dn.1]
    have hqlt:x.nat / d'.nat < 65536:=by
     rw [Nat.div_lt_iff_lt_mul (by omega)]
     omega
    have hqn:(I.quo x d').nat = x.nat / d'.nat:=by
     show (I.quo x d').val.toNat = _
     rw [hq,hq2,Int.toNat_natCast]
    have hrn:(I.rem x d').nat = x.nat % d'.nat:=by
     show (I.rem x d').val.toNat = _
     rw [hr,hr2,Int.toNat_natCast]
    have st:=f9S hI (by omega) (x:=x.nat) (by omega) (I.quo x d') hqn ⟨by rw [hq,hq2]; omega,by rw [hq,hq2]; omega⟩ (by omega)
    have hlen:=hI.len
    refine Wp.brnT (iff_inB.2 ⟨hge,by show i.val < ((a'.length:Nat):Int); omega⟩) ?_
    refine Wp.brnT (iff_nz.2 h0) (Wp.brnT (iff_nz.2 h0) ?_)
    refine Wp.brnT (iff_inB.2 ⟨hge,by show i.val < ((q.length:Nat):Int); omega⟩) ?_
    refine Wp.again ⟨rfl,rfl,?_,?_,?_,?_⟩ ?_
    ·
     show 0 ≤ (I.rem (I.add (I.mul (I.of .i64 65536) left) (rd0 a' i.val.toNat)) d').val
     rw [hX,hr,hr2]; omega
    ·
     show -1 ≤ (I.sub i (I.of .i64 1)).val; omega
    ·
     show (I.sub i (I.of .i64 1)).val < _; omega
    ·
     show ShInv a' d'.nat (I.nat (I.rem (I.add (I.mul (I.of .i64 65536) left) (rd0 a' i.val.toNat)) d')) ((I.sub i (I.of .i64 1)).val + 1).toNat (setAt q (I.nat i) (I.quo (I.add (I.mul (I.of .i64 65536) left) (rd0 a' i.val.toNat)) d'))
     rw [hX,a6Q,hrn,show ((I.sub i (I.of .i64 1)).val + 1).toNat = i.val.toNat by omega]
     exact st
    ·
     show ((I.sub i (I.of .i64 1)).val + 1).toNat < (i.val + 1).toNat
     omega
   ·
    have h:=niff_leb.1 h
    simp only [c0] at h
    have e0:(i.val + 1).toNat = 0:=by omega
    rw [e0] at hI
    have heq:=hI.eq
    simp only [List.drop_zero] at heq
    rw [ha.val] at heq
    have hlen:=hI.len
    obtain ⟨qq,hq,hQ⟩:=d6W q hI.dig (by omega)
    have hdl:c0J [left]:=by intro e he; simp only [List.mem_singleton] at he; subst he; exact ⟨by omega,by omega⟩
    obtain ⟨rr,hr,hR⟩:=d6W [left] hdl (by simp)
    refine Wp.done (Wp.optF hq (Wp.optF hr ⟨qq,rr,rfl,?_,?_⟩))
    ·
     refine ⟨hQ.dig,hQ.lead,?_⟩
     rw [hQ.val,heq,Nat.mul_comm,Nat.mul_add_div (by omega),Nat.div_eq_of_lt hlt,Nat.add_zero]
    ·
     refine ⟨hR.dig,hR.lead,?_⟩
     rw [hR.val,heq,Nat.mul_comm,Nat.mul_add_mod,Nat.mod_eq_of_lt hlt]
     simp [bv]
  ·
   refine ⟨rfl,rfl,by show 0 ≤ (I.of .i64 0).val; decide,?_,?_,?_⟩
   ·
    show -1 ≤ (I.sub (I.ofNat .i64 (a0I a)) (I.of .i64 1)).val
    rw [a8B (by omega)]; omega
   ·
    show (I.sub (I.ofNat .i64 (a0I a)) (I.of .i64 1)).val < _
    rw [a8B (by omega)]; omega
   ·
    show ShInv a d.nat (I.of .i64 0).nat ((I.sub (I.ofNat .i64 (a0I a)) (I.of .i64 1)).val + 1).toNat (b8F (I.nat (I.ofNat .i64 (a0I a))) (I.of .i64 0))
    rw [a8B (by omega),hn,hol,c1,show ((a.length:Int) - 1 + 1).toNat = a.length by omega]
    refine ⟨b2E _ _,c2E _,by show 0 < d.nat; omega,?_⟩
    rw [List.drop_of_length_le (Nat.le_refl _),List.drop_of_length_le (by rw [b2E]; omega)]
    simp [bv]; rfl
  ·
   refine b8C _ ?_
   show ((I.sub (I.ofNat .i64 (a0I a)) (I.of .i64 1)).val + 1).toNat < _
   rw [a8B (by omega)]; omega
 exact key.out
end Sym

/- Natural numbers by digits of 65536: the long division. -/
namespace Sym
open Go
theorem half' (N i:Nat):N / 2 ^ i = 2 * (N / 2 ^ (i + 1)) + N / 2 ^ i % 2:=by
 rw [Nat.pow_succ,← Nat.div_div_eq_div_mul]
 omega
structure DivOut (a q r:List Dg) (n j:Nat):Prop where
 ql:q.length = a.length
 qd:c0J q
 rd:c0J r
 lt:bv r < n
 zero:∀ s,s < j→(rd0 q s).nat = 0
 eq:bv (a.drop j) = bv (q.drop j) * n + bv r
structure DivMid (a q r:List Dg) (n i t:Nat):Prop where
 ql:q.length = a.length
 qd:c0J q
 rd:c0J r
 lt:bv r < n
 zero:∀ s,s < i→(rd0 q s).nat = 0
 low:(rd0 q i).nat % 2 ^ t = 0
 eq:bv (a.drop (i + 1)) * 2 ^ (16 - t) + (rd0 a i).nat / 2 ^ t = (bv (q.drop (i + 1)) * 2 ^ (16 - t) + (rd0 q i).nat / 2 ^ t) * n + bv r
theorem f0S {a q r:List Dg} {n i:Nat} (ha:c0J a) (h:DivOut a q r n (i + 1)):DivMid a q r n i 16:=by
 have hz:=h.zero i (by omega)
 have h1:=(b5E ha i).nat.2
 have p:2 ^ 16 = 65536:=by decide
 refine ⟨h.ql,h.qd,h.rd,h.lt,fun s hs=>h.zero s (by omega),by rw [hz,Nat.zero_mod],?_⟩
 rw [hz,p,Nat.div_eq_of_lt h1,h.eq]
 simp
theorem mid_end {a q r:List Dg} {n i:Nat} (h:DivMid a q r n i 0):DivOut a q r n i:=by
 refine ⟨h.ql,h.qd,h.rd,h.lt,h.zero,?_⟩
 have heq:=h.eq
 have p:2 ^ (16 - 0) = 65536:=by decide
 rw [p] at heq
 simp only [Nat.pow_zero,Nat.div_one] at heq
 rw [b9P a,b9P q,Nat.add_comm,Nat.mul_comm 65536,heq,Nat.add_comm (rd0 q i).nat,Nat.mul_comm 65536]
theorem g1K {x t:Nat} (h:x % 2 ^ (t + 1) = 0):x % 2 ^ t = 0∧x / 2 ^ t = 2 * (x / 2 ^ (t + 1)):=by
 have h1:=half' x t
 rw [Nat.pow_succ] at h
 have h4:=Nat.mod_mul (x:=x) (a:=2 ^ t) (b:=2)
 rw [h] at h4
 have h5:0 < 2 ^ t:=Nat.pow_pos (by decide)
 have h6:x / 2 ^ t % 2 = 0:=by
  rcases Nat.eq_zero_or_pos (x / 2 ^ t % 2) with h6 | h6
  ·
   exact h6
  ·
   have:2 ^ t * 1 ≤ 2 ^ t * (x / 2 ^ t % 2):=Nat.mul_le_mul_left _ h6
   omega
 omega
theorem e5Q {a q r r' q':List Dg} {n i t e:Nat} (h:DivMid a q r n i (t + 1)) (ht:t < 16) (hr:bv r' + e * n = 2 * bv r + (rd0 a i).nat / 2 ^ t % 2) (hrd:c0J r') (hlt:bv r' < n)
  (ql:q'.length = a.length) (qd:c0J q') (zero:∀ s,s < i→(rd0 q' s).nat = 0) (qi:(rd0 q' i).nat = (rd0 q i).nat + e * 2 ^ t) (qdrop:q'.drop (i + 1) = q.drop (i + 1)):DivMid a q' r' n i t:=by
 have h1:=g1K h.low
 have hp:2 ^ (16 - t) = 2 * 2 ^ (16 - (t + 1)):=by
  have e:16 - t = (16 - (t + 1)) + 1:=by omega
  rw [e,Nat.pow_succ,Nat.mul_comm]
 have ha:=half' (rd0 a i).nat t
 have hq:(rd0 q' i).nat / 2 ^ t = 2 * ((rd0 q i).nat / 2 ^ (t + 1)) + e:=by
  rw [qi,Nat.add_mul_div_right _ _ (Nat.pow_pos (by decide)),h1.2]
 refine ⟨ql,qd,hrd,hlt,zero,by rw [qi,Nat.add_mul_mod_self_right]; exact h1.1,?_⟩
 have heq:=h.eq
 rw [qdrop,hp,hq,ha]
 have e1:bv (a.drop (i + 1)) * (2 * 2 ^ (16 - (t + 1))) = 2 * (bv (a.drop (i + 1)) * 2 ^ (16 - (t + 1))):=Nat.mul_left_comm _ _ _
 have e2:bv (q.drop (i + 1)) * (2 * 2 ^ (16 - (t + 1))) = 2 * (bv (q.drop (i + 1)) * 2 ^ (16 - (t + 1))):=Nat.mul_left_comm _ _ _
 rw [e1,e2]
 have e3:(2 * (bv (q.drop (i + 1)) * 2 ^ (16 - (t + 1))) + (2 * ((rd0 q i).nat / 2 ^ (t + 1)) + e)) * n = 2 * ((bv (q.drop (i + 1)) * 2 ^ (16 - (t + 1)) + (rd0 q i).nat / 2 ^ (t + 1)) * n) + e * n:=by
  rw [← Nat.add_assoc,← Nat.mul_add,Nat.add_mul,Nat.mul_assoc]
 rw [e3]
 omega
structure DblInv (r:List Dg) (b over k:Nat) (s:List Dg):Prop where
 len:s.length = r.length
 dig:c0J s
 drop:s.drop k = r.drop k
 o1:over ≤ 1
 eq:bv (s.take k) + 65536 ^ k * over = 2 * bv (r.take k) + b
theorem f5H {r s:List Dg} {b over k:Nat} (h:DblInv r b over k s) (hk:k < r.length) (d:Dg) (ov:Nat) (hd:DigOk d) (ho:ov ≤ 1) (hs:d.nat + 65536 * ov = over + 2 * (rd0 s k).nat):DblInv r b ov (k + 1) (s.set k d):=by
 have hrs:rd0 s k = rd0 r k:=by
  have e:=congrArg (fun l:List Dg=>l[0]?) h.drop
  simp only [List.getElem?_drop,Nat.add_zero] at e
  unfold rd0
  have hk2:k < s.length:=by rw [h.len]; exact hk
  rw [a3X _ _ _ hk2,a3X _ _ _ hk]
  rw [List.getElem?_eq_getElem hk2,List.getElem?_eq_getElem hk] at e
  exact Option.some.inj e
 refine ⟨by simpa using h.len,c2J h.dig _ hd,?_,ho,?_⟩
 ·
  rw [c2Y]
  have e:=congrArg (fun l:List Dg=>l.drop 1) h.drop
  simpa [List.drop_drop] using e
 ·
  rw [c2R _ _ _ (by rw [h.len]; exact hk),c3I,c5H r k,← hrs]
  have el:(s.take k).length = k:=by simp [h.len]; omega
  rw [el,Nat.pow_succ]
  simp only [bv,Nat.mul_zero,Nat.add_zero]
  have heq:=h.eq
  have e:=congrArg (fun z=>65536 ^ k * z) hs
  simp only [Nat.mul_add] at e
  rw [← Nat.mul_assoc] at e
  have e2:65536 ^ k * (2 * (rd0 s k).nat) = 2 * (65536 ^ k * (rd0 s k).nat):=Nat.mul_left_comm _ _ _
  rw [e2] at e
  omega
theorem e4W {l:List Dg} {j:I .i64} (h0:0 ≤ j.val) (h1:j.val ≤ (l.length:Int)):inB' j (a0I l) = true:=by
 show (decide (0 ≤ j.val) && decide (j.val ≤ ((l.length:Nat):Int))) = true
 simp [h0,h1]
theorem e5W (l:List Dg) (j:I .i64):a4N l 0 (I.nat j) = l.take j.val.toNat:=by simp [a4N,I.nat]
theorem d0R {l:List Dg} {j:I .i64} (h0:0 ≤ j.val) (h:j.val ≤ 0) (hb:bv (l.take j.val.toNat) = bv l):IsB (a4N l 0 (I.nat j)) (bv l):=by
 rw [e5W]
 have e:j.val.toNat = 0:=by omega
 rw [e] at hb ⊢
 simp only [List.take_zero] at hb ⊢
 rw [← hb]
 exact d2U
theorem d7Q {l:List Dg} {j:I .i64} (hd:c0J l) (h0:0 < j.val) (h1:j.val ≤ (l.length:Int)) (hlen:l.length ≤ 1073741824) (hb:bv (l.take j.val.toNat) = bv l) :
  (I.sub j (I.of .i64 1)).val = j.val - 1∧inB (I.sub j (I.of .i64 1)) (a0I l) = true ∧
  (I.eqb (rdL (I.of .i64 0) l (I.nat (I.sub j (I.of .i64 1)))) (I.of .i64 0) = true→bv (l.take (I.sub j (I.of .i64 1)).val.toNat) = bv l) ∧
  (I.eqb (rdL (I.of .i64 0) l (I.nat (I.sub j (I.of .i64 1)))) (I.of .i64 0) = false→IsB (a4N l 0 (I.nat j)) (bv l)):=by
 have c1:(I.of .i64 1).val = 1:=rfl
 have c0:(I.of .i64 0).val = 0:=rfl
 have hs:(I.sub j (I.of .i64 1)).val = j.val - 1:=by rw [a8B (by omega)]; omega
 have hidx:(I.nat (I.sub j (I.of .i64 1))) = j.val.toNat - 1:=by unfold I.nat; omega
 have hlt:j.val.toNat - 1 < l.length:=by omega
 have hrd:rdL (I.of .i64 0) l (I.nat (I.sub j (I.of .i64 1))) = l[j.val.toNat - 1]:=by rw [hidx]; exact a3X _ _ _ hlt
 have htk:l.take j.val.toNat = l.take (j.val.toNat - 1) ++ [l[j.val.toNat - 1]]:=by
  rw [List.take_append_getElem hlt]
  congr 1
  omega
 refine ⟨hs,iff_inB.2 ⟨by omega,by show (I.sub j (I.of .i64 1)).val < (l.length:Int); omega⟩,fun h2=>?_,fun h2=>?_⟩
 ·
  have h2:=iff_eqb.1 h2
  rw [hrd,c0] at h2
  have e:(I.sub j (I.of .i64 1)).val.toNat = j.val.toNat - 1:=by omega
  rw [e,← hb,htk,c3I]
  have hz:(l[j.val.toNat - 1]).nat = 0:=by unfold I.nat; rw [h2]; rfl
  simp [bv,hz]
 ·
  have h2:=niff_eqb.1 h2
  rw [hrd,c0] at h2
  rw [e5W]
  refine ⟨c1N hd _,?_,hb⟩
  rw [htk]
  exact c4S _ _ h2
theorem e9S {s d:List Dg} {k:Nat} (hk:k < s.length) (hb:bv (s.take k) = bv (d.take k)) (hs:c0J s) (hd:c0J d):bv ((s.set k (rd0 d k)).take (k + 1)) = bv (d.take (k + 1))∧c0J (s.set k (rd0 d k)):=by
 refine ⟨?_,c2J hs _ (b5E hd k)⟩
 rw [c2R _ _ _ hk,c3I,c5H d k,hb]
 have el:(s.take k).length = k:=by simp; omega
 rw [el]
 simp [bv]
theorem g2Q (t:I .i64) (h0:0 ≤ t.val) (h1:t.val ≤ 15):(I.shl (I.of .i64 1) (I.conv .u64 t)).val = ((2 ^ t.val.toNat:Nat):Int):=by
 have hc:(I.conv .u64 t).val = t.val:=b9B ⟨by omega,by omega⟩
 have hm:min (I.conv .u64 t).val.toNat IntKind.i64.bits = t.val.toNat:=by
  have:IntKind.i64.bits = 64:=rfl
  omega
 have h3:2 ^ t.val.toNat ≤ 2 ^ 15:=Nat.pow_le_pow_right (by decide) (by omega)
 have h4:((2 ^ t.val.toNat:Nat):Int) = 2 ^ t.val.toNat:=by simp
 have h5:(I.of .i64 1).val = 1:=rfl
 unfold I.shl
 rw [hm,h5,Int.one_mul,← h4]
 exact b7M ⟨Int.le_trans (by decide) (Int.natCast_nonneg _),Int.lt_of_le_of_lt (Int.ofNat_le.2 h3) (by decide)⟩
theorem g3I (x t:I .i64) (hx:0 ≤ x.val) (h0:0 ≤ t.val) (h1:t.val ≤ 15):(I.and (I.shr x (I.conv .u64 t)) (I.of .i64 1)).val = ((x.nat / 2 ^ t.val.toNat % 2:Nat):Int):=by
 have hxr:=b4W x
 have hc:(I.conv .u64 t).val = t.val:=b9B ⟨by omega,by omega⟩
 have hm:min (I.conv .u64 t).val.toNat IntKind.i64.bits = t.val.toNat:=by
  have:IntKind.i64.bits = 64:=rfl
  omega
 have hxn:(x.nat:Int) = x.val:=by unfold I.nat; omega
 have h2:((x.nat / 2 ^ t.val.toNat:Nat):Int) = x.val / (2:Int) ^ t.val.toNat:=by
  rw [Int.natCast_ediv,hxn]; simp
 have hle:=Nat.div_le_self x.nat (2 ^ t.val.toNat)
 have hs:(I.shr x (I.conv .u64 t)).val = ((x.nat / 2 ^ t.val.toNat:Nat):Int):=by
  unfold I.shr
  rw [hm,d6X _ _ hx,← h2]
  exact b7M ⟨Int.le_trans (by decide) (Int.natCast_nonneg _),Int.lt_of_le_of_lt (Int.ofNat_le.2 hle) (by omega)⟩
 have h3:(BitVec.ofInt 64 (I.shr x (I.conv .u64 t)).val &&& BitVec.ofInt 64 1).toNat = x.nat / 2 ^ t.val.toNat % 2:=by
  rw [BitVec.toNat_and,hs]
  have e1:(BitVec.ofInt 64 1).toNat = 2 ^ 1 - 1:=rfl
  rw [e1,Nat.and_two_pow_sub_one_eq_mod,BitVec.toNat_ofInt]
  omega
 have h4:(I.of .i64 1).val = 1:=rfl
 unfold I.and
 rw [h4]
 show (I.of .i64 ((BitVec.ofInt 64 _ &&& BitVec.ofInt 64 1).toNat:Int)).val = _
 rw [h3]
 exact b7M ⟨by omega,by omega⟩
set_option maxHeartbeats 4000000 in
theorem c4H {a b:List Dg} {m n:Nat} (ha:IsB a m) (hb:IsB b n) (hn0:n ≠ 0) (hal:a.length ≤ 1000000) (hbl:b.length ≤ 900000):∃ q r,a3J K0 ((a,b,()),()) = some ((q,r,()),())∧IsB q (m / n)∧IsB r (m % n):=by
 have hol:(I.ofNat .i64 (a0I a)).val = a.length:=a3H (by show a.length < _; omega)
 have hol2:(I.ofNat .i64 (a0I b)).val = b.length:=a3H (by show b.length < _; omega)
 have hn:I.nat (I.ofNat .i64 (a0I a)) = a.length:=by unfold I.nat; omega
 have c0:(I.of .i64 0).val = 0:=rfl
 have c1:(I.of .i64 1).val = 1:=rfl
 have c2:(I.of .i64 2).val = 2:=rfl
 have hb1:(I.add (I.ofNat .i64 (a0I b)) (I.of .i64 1)).val = b.length + 1:=by rw [a5N (by omega),hol2,c1]
 have hbn:I.nat (I.add (I.ofNat .i64 (a0I b)) (I.of .i64 1)) = b.length + 1:=by unfold I.nat; omega
 have hnlt:=hb.len.1 (Nat.le_refl b.length)
 have key:Wp (fun o=>∃ q r,o = some ((q,r,()),())∧IsB q (m / n)∧IsB r (m % n)) (a3J K0 ((a,b,()),())):=by
  unfold a3J
  refine Wp.brn (fun h=>?_) (fun h=>?_)
  ·
   have h:=iff_eqb.1 h
   have h:(I.ofNat .i64 (a0I b)).val = (I.of .i64 1).val:=h
   have hd1:b.length = 1:=by omega
   obtain ⟨d,hd⟩:=List.length_eq_one_iff.1 hd1
   subst hd
   refine Wp.brnT (iff_inB.2 ⟨by show 0 ≤ (I.of .i64 0).val; decide,by show (I.of .i64 0).val < (([d]:List Dg).length:Int); simp [c0]⟩) ?_
   have hdd:=(digs_cons.1 hb.dig).1
   have hdl:d.val ≠ 0:=hb.lead
   have hdv:d.nat = n:=by have:=hb.val; simp only [bv] at this; omega
   obtain ⟨q,r,h1,h2,h3⟩:=f4W ha hal d hdd hdl
   rw [hdv] at h2 h3
   exact Wp.optF h1 ⟨q,r,rfl,h2,h3⟩
  clear h
  refine Wp.brnT ?_ (Wp.brnT ?_ (Wp.brnT ?_ (Wp.brnT ?_ ?_)))
  ·
   show (decide (0 ≤ (I.ofNat .i64 (a0I a)).val) && decide ((I.ofNat .i64 (a0I a)).val ≤ ((I.nat (I.ofNat .i64 (a0I a)):Nat):Int))) = true
   rw [hn,hol]; simp
  ·
   show (decide (0 ≤ (I.ofNat .i64 (a0I a)).val) && decide ((I.ofNat .i64 (a0I a)).val ≤ ((1073741824:Nat):Int))) = true
   rw [hol]; simp; omega
  ·
   show (decide (0 ≤ (I.add (I.ofNat .i64 (a0I b)) (I.of .i64 1)).val) && decide ((I.add (I.ofNat .i64 (a0I b)) (I.of .i64 1)).val ≤ ((I.nat (I.add (I.ofNat .i64 (a0I b)) (I.of .i64 1)):Nat):Int))) = true
   rw [hbn,hb1]; simp; omega
  ·
   show (decide (0 ≤ (I.add (I.ofNat .i64 (a0I b)) (I.of .i64 1)).val) && decide ((I.add (I.ofNat .i64 (a0I b)) (I.of .i64 1)).val ≤ ((1073741824:Nat):Int))) = true
   rw [hb1]; simp; omega
  refine Wp.iter (fun x=>x.1.1 = a∧x.1.2.1 = b∧-1 ≤ x.1.2.2.1.val∧x.1.2.2.1.val < (a.length:Int)∧x.2.2.1.length = b.length + 1∧DivOut a x.2.1 x.2.2.1 n (x.1.2.2.1.val + 1).toNat) (fun x=>(x.1.2.2.1.val + 1).toNat) ?_ ?_ ?_
  ·
   rintro ⟨⟨a',b',i,⟨⟩⟩,q0,r0,⟨⟩⟩ ⟨e1,e2,hi0,hi1,hrl,hI⟩
   simp only at e1 e2 hi0 hi1 hrl hI
   subst e1 e2
   have hal:a'.length ≤ 1000000:=hal
   have hbl:b'.length ≤ 900000:=hbl
   have hnlt:n < 65536 ^ b'.length:=hnlt
   have hi1:i.val < (a'.length:Int):=hi1
   have hrl:r0.length = b'.length + 1:=hrl
   refine Wp.brn (fun h=>?_) (fun h=>?_)
   ·
    have hge:=iff_leb.1 h
    have hge:(I.of .i64 0).val ≤ i.val:=hge
    clear h
    have si:(I.sub i (I.of .i64 1)).val = i.val - 1:=by rw [a8B (by omega)]; omega
    have ei:(i.val + 1).toNat = i.val.toNat + 1:=by omega
    rw [ei] at hI
    have hmi:((I.sub i (I.of .i64 1)).val + 1).toNat < (i.val + 1).toNat:=by omega
    have da:=b5E ha.dig i.val.toNat
    have na:=da.nat
    have da0:=da.1
    refine Wp.iter (fun x=>x.1.1 = a'∧x.1.2.1 = b'∧x.1.2.2.1 = i∧-1 ≤ x.1.2.2.2.1.val∧x.1.2.2.2.1.val ≤ 15∧x.2.2.1.length = b'.length + 1∧DivMid a' x.2.1 x.2.2.1 n i.val.toNat (x.1.2.2.2.1.val + 1).toNat) (fun x=>(x.1.2.2.2.1.val + 1).toNat) ?_ ⟨rfl,rfl,rfl,by show -1 ≤ (I.of .i64 15).val; decide,by show (I.of .i64 15).val ≤ 15; decide,hrl,f0S ha.dig hI⟩ (b8C _ (by show ((I.of .i64 15).val + 1).toNat < _; decide))
    rintro ⟨⟨a1,b1,i1,bit,⟨⟩⟩,q,r,⟨⟩⟩ ⟨e1,e2,e3,hb0,hb15,hrl,hM⟩
    simp only at e1 e2 e3 hb0 hb15 hrl hM
    subst e1 e2 e3
    have hal:a1.length ≤ 1000000:=hal
    have hbl:b1.length ≤ 900000:=hbl
    have hnlt:n < 65536 ^ b1.length:=hnlt
    have hi1:i1.val < (a1.length:Int):=hi1
    have hrl:r.length = b1.length + 1:=hrl
    refine Wp.brn (fun h=>?_) (fun h=>?_)
    ·
     have hbg:=iff_leb.1 h
     have hbg:(I.of .i64 0).val ≤ bit.val:=hbg
     clear h
     have sb:(I.sub bit (I.of .i64 1)).val = bit.val - 1:=by rw [a8B (by omega)]; omega
     have eb:(bit.val + 1).toNat = bit.val.toNat + 1:=by omega
     rw [eb] at hM
     have hmb:((I.sub bit (I.of .i64 1)).val + 1).toNat < (bit.val + 1).toNat:=by omega
     have esb:((I.sub bit (I.of .i64 1)).val + 1).toNat = bit.val.toNat:=by omega
     refine Wp.brnT (iff_inB.2 ⟨by show 0 ≤ i1.val; omega,by show i1.val < ((a1.length:Nat):Int); omega⟩) (Wp.brnT (c3E _) ?_)
     have hbv:=g3I (rd0 a1 i1.val.toNat) bit da0 (by omega) hb15
     generalize hbe:(rd0 a1 i1.val.toNat).nat / 2 ^ bit.val.toNat % 2 = bv0 at hbv
     have hbv1:bv0 ≤ 1:=by omega
     have holr:(I.ofNat .i64 (a0I r)).val = r.length:=a3H (by show r.length < _; omega)
     have hrlt:=hM.lt
     refine Wp.iter (fun x=>x.1.1 = a1∧x.1.2.1 = b1∧x.1.2.2.1 = i1∧x.1.2.2.2.1 = bit∧x.2.1 = q∧0 ≤ x.1.2.2.2.2.1.val∧0 ≤ x.1.2.2.2.2.2.1.val∧x.1.2.2.2.2.2.1.val ≤ (r.length:Int)∧DblInv r bv0 (I.nat (k:=.i64) x.1.2.2.2.2.1) x.1.2.2.2.2.2.1.val.toNat x.2.2.1) (fun x=>((r.length:Int) - x.1.2.2.2.2.2.1.val).toNat) ?_ ?_ ?_
     ·
      rintro ⟨⟨a2,b2,i2,bit2,ov,k,⟨⟩⟩,q2,s,⟨⟩⟩ ⟨e1,e2,e3,e4,e5,ho0,hk0,hk1,hD⟩
      simp only at e1 e2 e3 e4 e5 ho0 hk0 hk1 hD
      subst e1 e2 e3 e4 e5
      have hal:a2.length ≤ 1000000:=hal
      have hbl:b2.length ≤ 900000:=hbl
      have hnlt:n < 65536 ^ b2.length:=hnlt
      have hi1:i2.val < (a2.length:Int):=hi1
      have hrl:r.length = b2.length + 1:=hrl
      have hsl:s.length = r.length:=hD.len
      have hols:(I.ofNat .i64 (a0I s)).val = s.length:=a3H (by show s.length < _; omega)
      refine Wp.brn (fun h=>?_) (fun h=>?_)
      ·
       have hkl:=iff_ltb.1 h
       have hkl:k.val < (I.ofNat .i64 (a0I s)).val:=hkl
       clear h
       have sk:(I.add k (I.of .i64 1)).val = k.val + 1:=by rw [a5N (by omega)]; omega
       have bk:inB k (a0I s) = true:=iff_inB.2 ⟨hk0,by show k.val < ((s.length:Nat):Int); omega⟩
       have ds:=b5E hD.dig k.val.toNat
       have ns:=ds.nat
       have ds0:=ds.1
       have o1:=hD.o1
       have ovn:(I.nat ov:Int) = ov.val:=by unfold I.nat; omega
       have hm1:(I.mul (I.of .i64 2) (rd0 s k.val.toNat)).val = 2 * (rd0 s k.val.toNat).val:=by rw [c4O (by rw [c2]; omega),c2]
       have hs1:(I.add ov (I.mul (I.of .i64 2) (rd0 s k.val.toNat))).val = ov.val + 2 * (rd0 s k.val.toNat).val:=by rw [a5N (by rw [hm1]; omega),hm1]
       generalize hX:I.add ov (I.mul (I.of .i64 2) (rd0 s k.val.toNat)) = x at hs1
       have hsh:=c8M x (by omega)
       have han:=e2Y x (by omega)
       have hdig:DigOk (I.and x (I.of .i64 65535)):=⟨by omega,by omega⟩
       have hshn:((I.shr x (I.of .u64 16)).nat:Int) = (I.shr x (I.of .u64 16)).val:=by unfold I.nat; omega
       have st:=f5H hD (by omega) (I.and x (I.of .i64 65535)) (I.shr x (I.of .u64 16)).nat hdig (by omega) (by have:=hdig.nat; omega)
       refine Wp.brnT bk (Wp.brnT bk ?_)
       refine Wp.again ⟨rfl,rfl,rfl,rfl,rfl,?_,?_,?_,?_⟩ ?_
       ·
        show 0 ≤ (I.shr (I.add ov (I.mul (I.of .i64 2) (rd0 s k.val.toNat))) (I.of .u64 16)).val
        rw [hX]; omega
       ·
        show 0 ≤ (I.add k (I.of .i64 1)).val; omega
       ·
        show (I.add k (I.of .i64 1)).val ≤ _; omega
       ·
        show DblInv r bv0 (I.nat (I.shr (I.add ov (I.mul (I.of .i64 2) (rd0 s k.val.toNat))) (I.of .u64 16))) (I.add k (I.of .i64 1)).val.toNat (setAt s (I.nat k) (I.and (I.add ov (I.mul (I.of .i64 2) (rd0 s k.val.toNat))) (I.of .i64 65535)))
        rw [hX,a6Q,show (I.add k (I.of .i64 1)).val.toNat = k.val.toNat + 1 by omega]
        exact st
       ·
        show ((r.length:Int) - (I.add k (I.of .i64 1)).val).toNat < ((r.length:Int) - k.val).toNat
        omega
      ·
       have hkg:=niff_ltb.1 h
       have hkg:(I.ofNat .i64 (a0I s)).val ≤ k.val:=hkg
       clear h
       have hk:k.val.toNat = r.length:=by omega
       rw [hk] at hD
       have heq:=hD.eq
       rw [List.take_of_length_le (l:=s) (by omega),List.take_length,hrl,Nat.pow_succ] at heq
       have hR:bv s = 2 * bv r + bv0:=by
        rcases Nat.lt_or_ge (I.nat ov) 1 with h1 | h1
        ·
         have:I.nat ov = 0:=by omega
         rw [this,Nat.mul_zero,Nat.add_zero] at heq; exact heq
        ·
         exfalso
         have:I.nat ov = 1:=by have:=hD.o1; omega
         rw [this,Nat.mul_one] at heq
         omega
       have hsd:=hD.dig
       have hsl2:s.length ≤ 1073741824:=by omega
       have hRb:bv s < 65536 ^ (b2.length + 1):=by have:=e1W hsd; rw [hsl,hrl] at this; exact this
       refine Wp.done ?_
       refine Wp.iter (fun x=>x.1.2.1 = a2∧x.1.2.2.1 = b2∧x.1.2.2.2.1 = i2∧x.1.2.2.2.2.1 = bit2∧x.2.1 = s∧x.2.2.1 = q2∧0 ≤ x.1.1.val∧x.1.1.val ≤ (s.length:Int)∧bv (s.take x.1.1.val.toNat) = bv s) (fun x=>x.1.1.val.toNat) ?_ ?_ ?_
       ·
        rintro ⟨⟨j,a3,b3,i3,bit3,⟨⟩⟩,s3,q3,⟨⟩⟩ ⟨k0,k1,k2,k3,k4,k5,hj0,hj1,hbt⟩
        simp only at k0 k1 k2 k3 k4 k5 hj0 hj1 hbt
        subst k0 k1 k2 k3 k4 k5
        refine Wp.brn (fun h=>?_) (fun h=>?_)
        have hjp:=iff_ltb.1 h
        have hjp:(I.of .i64 0).val < j.val:=hjp
        clear h
        obtain ⟨sj,bj,z1,z2⟩:=d7Q (l:=s3) (j:=j) hsd hjp hj1 hsl2 hbt
        refine Wp.brnT bj (Wp.brn (fun h2=>?_) (fun h2=>?_))
        ·
         refine Wp.again ⟨rfl,rfl,rfl,rfl,rfl,rfl,?_,?_,z1 h2⟩ ?_
         ·
          show 0 ≤ (I.sub j (I.of .i64 1)).val; omega
         ·
          show (I.sub j (I.of .i64 1)).val ≤ _; omega
         ·
          show (I.sub j (I.of .i64 1)).val.toNat < j.val.toNat
          omega
        have hB:=z2 h2
        clear z1 z2 h2 bj sj
        rotate_left
        have hjz:=niff_ltb.1 h
        have hjz:j.val ≤ (I.of .i64 0).val:=hjz
        clear h
        have hB:=d0R (l:=s3) (j:=j) hj0 (by omega) hbt
        all_goals
         refine Wp.done (Wp.brnT (e4W hj0 hj1) ?_)
         have hal:a3.length ≤ 1000000:=hal
         have hbl:b3.length ≤ 900000:=hbl
         have hnlt:n < 65536 ^ b3.length:=hnlt
         have hi1:i3.val < (a3.length:Int):=hi1
         have hrl:r.length = b3.length + 1:=hrl
         have hsl:s3.length = r.length:=hsl
         have hcl:(a4N s3 0 (I.nat j)).length ≤ 1000000:=by rw [e5W,List.length_take]; omega
         refine Wp.optF (c4L hB hb hcl (show b3.length ≤ 1000000 by omega)) ?_
         by_cases hcmp:bv s3 < n
         ·
          refine Wp.brnF (by show I.leb (I.of .i64 0) (c3J (bv s3) n) = false; unfold c3J; rw [if_pos hcmp]; rfl) ?_
          have st:=e5Q (e:=0) (q':=q3) (r':=s3) hM (by omega) (by rw [hbe]; omega) hsd hcmp hM.ql hM.qd hM.zero (by omega) rfl
          refine Wp.again ⟨rfl,rfl,rfl,?_,?_,?_,?_⟩ hmb
          ·
           show -1 ≤ (I.sub bit3 (I.of .i64 1)).val; omega
          ·
           show (I.sub bit3 (I.of .i64 1)).val ≤ 15; omega
          ·
           show s3.length = _; omega
          ·
           show DivMid a3 q3 s3 n i3.val.toNat ((I.sub bit3 (I.of .i64 1)).val + 1).toNat
           rw [esb]; exact st
         ·
          refine Wp.brnT (by show I.leb (I.of .i64 0) (c3J (bv s3) n) = true; unfold c3J; rw [if_neg hcmp]; split <;> rfl) ?_
          have hcge:n ≤ bv s3:=by omega
          clear hB hbt hj0 hj1 hcl
          refine Wp.iter (fun x=>x.1.2.1 = a3∧x.1.2.2.1 = b3∧x.1.2.2.2.1 = i3∧x.1.2.2.2.2.1 = bit3∧x.2.1 = s3∧x.2.2.1 = q3∧0 ≤ x.1.1.val∧x.1.1.val ≤ (s3.length:Int)∧bv (s3.take x.1.1.val.toNat) = bv s3) (fun x=>x.1.1.val.toNat) ?_ ?_ ?_
          ·
           rintro ⟨⟨j,a3,b3,i3,bit3,⟨⟩⟩,s3,q3,⟨⟩⟩ ⟨k0,k1,k2,k3,k4,k5,hj0,hj1,hbt⟩
           simp only at k0 k1 k2 k3 k4 k5 hj0 hj1 hbt
           subst k0 k1 k2 k3 k4 k5
           refine Wp.brn (fun h=>?_) (fun h=>?_)
           have hjp:=iff_ltb.1 h
           have hjp:(I.of .i64 0).val < j.val:=hjp
           clear h
           obtain ⟨sj,bj,z1,z2⟩:=d7Q (l:=s3) (j:=j) hsd hjp hj1 hsl2 hbt
           refine Wp.brnT bj (Wp.brn (fun h2=>?_) (fun h2=>?_))
           ·
            refine Wp.again ⟨rfl,rfl,rfl,rfl,rfl,rfl,?_,?_,z1 h2⟩ ?_
            ·
             show 0 ≤ (I.sub j (I.of .i64 1)).val; omega
            ·
             show (I.sub j (I.of .i64 1)).val ≤ _; omega
            ·
             show (I.sub j (I.of .i64 1)).val.toNat < j.val.toNat
             omega
           have hB:=z2 h2
           clear z1 z2 h2 bj sj
           rotate_left
           have hjz:=niff_ltb.1 h
           have hjz:j.val ≤ (I.of .i64 0).val:=hjz
           clear h
           have hB:=d0R (l:=s3) (j:=j) hj0 (by omega) hbt
           all_goals
            refine Wp.done (Wp.brnT (e4W hj0 hj1) ?_)
            have hal:a3.length ≤ 1000000:=hal
            have hbl:b3.length ≤ 900000:=hbl
            have hnlt:n < 65536 ^ b3.length:=hnlt
            have hi1:i3.val < (a3.length:Int):=hi1
            have hrl:r.length = b3.length + 1:=hrl
            have hsl:s3.length = r.length:=hsl
            have hcl:(a4N s3 0 (I.nat j)).length ≤ 1000000:=by rw [e5W,List.length_take]; omega
            obtain ⟨d,hsub,hdB⟩:=c7D hB hb hcge hcl
            refine Wp.optF hsub ?_
            have hdlen:d.length ≤ b3.length + 1:=hdB.len.2 (by omega)
            have hold:(I.ofNat .i64 (a0I d)).val = d.length:=a3H (by show d.length < _; omega)
            refine Wp.iter (fun x=>x.1.1 = a3∧x.1.2.1 = b3∧x.1.2.2.1 = i3∧x.1.2.2.2.1 = bit3∧x.1.2.2.2.2.1 = d∧x.2.1 = q3∧x.2.2.1.length = b3.length + 1∧c0J x.2.2.1∧0 ≤ x.1.2.2.2.2.2.1.val∧x.1.2.2.2.2.2.1.val ≤ (b3.length + 1:Int)∧bv (x.2.2.1.take x.1.2.2.2.2.2.1.val.toNat) = bv (d.take x.1.2.2.2.2.2.1.val.toNat)) (fun x=>((b3.length + 1:Int) - x.1.2.2.2.2.2.1.val).toNat) ?_ ?_ ?_
            ·
             rintro ⟨⟨a4,b4,i4,bit4,d4,k4,⟨⟩⟩,q4,r4,⟨⟩⟩ ⟨f1,f2,f3,f4,f5,f6,hl4,hd4,hk40,hk41,hbk⟩
             simp only at f1 f2 f3 f4 f5 f6 hl4 hd4 hk40 hk41 hbk
             subst f1 f2 f3 f4 f5 f6
             have hal:a4.length ≤ 1000000:=hal
             have hbl:b4.length ≤ 900000:=hbl
             have hi1:i4.val < (a4.length:Int):=hi1
             have hl4:r4.length = b4.length + 1:=hl4
             have hdlen:d4.length ≤ b4.length + 1:=hdlen
             have hold:(I.ofNat .i64 (a0I d4)).val = d4.length:=hold
             have hol4:(I.ofNat .i64 (a0I r4)).val = r4.length:=a3H (by show r4.length < _; omega)
             refine Wp.brn (fun h=>?_) (fun h=>?_)
             ·
              have hkl:=iff_ltb.1 h
              have hkl:k4.val < (I.ofNat .i64 (a0I r4)).val:=hkl
              clear h
              have sk:(I.add k4 (I.of .i64 1)).val = k4.val + 1:=by rw [a5N (by omega)]; omega
              have st:=e9S (s:=r4) (d:=d4) (k:=k4.val.toNat) (by omega) hbk hd4 hdB.dig
              have hm4:((b4.length + 1:Int) - (I.add k4 (I.of .i64 1)).val).toNat < ((b4.length + 1:Int) - k4.val).toNat:=by omega
              refine Wp.brnT (iff_inB.2 ⟨hk40,by show k4.val < ((r4.length:Nat):Int); omega⟩) ?_
              refine Wp.brn (fun h=>?_) (fun h=>?_)
              ·
               have hkd:=iff_ltb.1 h
               have hkd:k4.val < (I.ofNat .i64 (a0I d4)).val:=hkd
               clear h
               refine Wp.brnT (iff_inB.2 ⟨hk40,by show k4.val < ((d4.length:Nat):Int); omega⟩) ?_
               refine Wp.brnT (iff_inB.2 ⟨hk40,by show k4.val < (((setAt r4 (I.nat k4) (I.of .i64 0)).length:Nat):Int); rw [a6Q,List.length_set]; omega⟩) ?_
               have e:setAt (setAt r4 (I.nat k4) (I.of .i64 0)) (I.nat k4) (rd0 d4 k4.val.toNat) = r4.set k4.val.toNat (rd0 d4 k4.val.toNat):=by
                rw [a6Q,a6Q]
                show (r4.set k4.val.toNat _).set k4.val.toNat _ = _
                rw [List.set_set]
               refine Wp.again ⟨rfl,rfl,rfl,rfl,rfl,rfl,?_,?_,?_,?_,?_⟩ hm4
               ·
                show (setAt (setAt r4 (I.nat k4) (I.of .i64 0)) (I.nat k4) (rd0 d4 k4.val.toNat)).length = _
                rw [e,List.length_set]; exact hl4
               ·
                show c0J (setAt (setAt r4 (I.nat k4) (I.of .i64 0)) (I.nat k4) (rd0 d4 k4.val.toNat))
                rw [e]; exact st.2
               ·
                show 0 ≤ (I.add k4 (I.of .i64 1)).val; omega
               ·
                show (I.add k4 (I.of .i64 1)).val ≤ _; omega
               ·
                show bv ((setAt (setAt r4 (I.nat k4) (I.of .i64 0)) (I.nat k4) (rd0 d4 k4.val.toNat)).take (I.add k4 (I.of .i64 1)).val.toNat) = bv (d4.take (I.add k4 (I.of .i64 1)).val.toNat)
                rw [e,show (I.add k4 (I.of .i64 1)).val.toNat = k4.val.toNat + 1 by omega]
                exact st.1
              ·
               have hkd:=niff_ltb.1 h
               have hkd:(I.ofNat .i64 (a0I d4)).val ≤ k4.val:=hkd
               clear h
               have hz:rd0 d4 k4.val.toNat = I.of .i64 0:=c4B _ _ _ (by omega)
               rw [hz] at st
               have e:setAt r4 (I.nat k4) (I.of .i64 0) = r4.set k4.val.toNat (I.of .i64 0):=a6Q _ _ _
               refine Wp.again ⟨rfl,rfl,rfl,rfl,rfl,rfl,?_,?_,?_,?_,?_⟩ hm4
               ·
                show (setAt r4 (I.nat k4) (I.of .i64 0)).length = _
                rw [e,List.length_set]; exact hl4
               ·
                show c0J (setAt r4 (I.nat k4) (I.of .i64 0))
                rw [e]; exact st.2
               ·
                show 0 ≤ (I.add k4 (I.of .i64 1)).val; omega
               ·
                show (I.add k4 (I.of .i64 1)).val ≤ _; omega
               ·
                show bv ((setAt r4 (I.nat k4) (I.of .i64 0)).take (I.add k4 (I.of .i64 1)).val.toNat) = bv (d4.take (I.add k4 (I.of .i64 1)).val.toNat)
                rw [e,show (I.add k4 (I.of .i64 1)).val.toNat = k4.val.toNat + 1 by omega]
                exact st.1
             ·
              have hkg:=niff_ltb.1 h
              have hkg:(I.ofNat .i64 (a0I r4)).val ≤ k4.val:=hkg
              clear h
              have hk:k4.val.toNat = b4.length + 1:=by omega
              rw [hk,List.take_of_length_le (by omega),List.take_of_length_le hdlen,hdB.val] at hbk
              have hqi:=(b5E hM.qd i4.val.toNat)
              have hqn:=hqi.nat
              have hq0:=hqi.1
              have hlow:=hM.low
              have hqlen:=hM.ql
              have hsb:=g2Q bit4 (by omega) hb15
              have hpw:2 ^ bit4.val.toNat ≤ 2 ^ 15:=Nat.pow_le_pow_right (by decide) (by omega)
              have hqb:(rd0 q4 i4.val.toNat).nat + 2 ^ bit4.val.toNat < 65536:=by
               have e1:65536 = 2 ^ (bit4.val.toNat + 1) * 2 ^ (15 - bit4.val.toNat):=by rw [← Nat.pow_add,show bit4.val.toNat + 1 + (15 - bit4.val.toNat) = 16 by omega]
               have e2:=Nat.div_add_mod (rd0 q4 i4.val.toNat).nat (2 ^ (bit4.val.toNat + 1))
               rw [hlow,Nat.add_zero] at e2
               have e3:(rd0 q4 i4.val.toNat).nat / 2 ^ (bit4.val.toNat + 1) + 1 ≤ 2 ^ (15 - bit4.val.toNat):=by
                rcases Nat.lt_or_ge ((rd0 q4 i4.val.toNat).nat / 2 ^ (bit4.val.toNat + 1)) (2 ^ (15 - bit4.val.toNat)) with h1 | h1
                ·
                 exact h1
                ·
                 exfalso
                 have:=Nat.mul_le_mul_left (2 ^ (bit4.val.toNat + 1)) h1
                 omega
               have e4:=Nat.mul_le_mul_left (2 ^ (bit4.val.toNat + 1)) e3
               rw [Nat.mul_add,Nat.mul_one,← e1,e2,Nat.pow_succ] at e4
               have:0 < 2 ^ bit4.val.toNat:=Nat.pow_pos (by decide)
               omega
              have hv:(I.add (rd0 q4 i4.val.toNat) (I.shl (I.of .i64 1) (I.conv .u64 bit4))).val = (rd0 q4 i4.val.toNat).val + ((2 ^ bit4.val.toNat:Nat):Int):=by rw [a5N (by rw [hsb]; omega),hsb]
              generalize hV:I.add (rd0 q4 i4.val.toNat) (I.shl (I.of .i64 1) (I.conv .u64 bit4)) = v at hv
              have hvn:v.nat = (rd0 q4 i4.val.toNat).nat + 2 ^ bit4.val.toNat:=by unfold I.nat at hqn ⊢; omega
              have hvd:DigOk v:=⟨by omega,by omega⟩
              have bi:inB i4 (a0I q4) = true:=iff_inB.2 ⟨by omega,by show i4.val < ((q4.length:Nat):Int); omega⟩
              have st:=e5Q (e:=1) (q':=q4.set i4.val.toNat v) (r':=r4) hM (by omega) (by rw [hbk,hbe]; omega) hd4 (by omega) (by simpa using hqlen) (c2J hM.qd _ hvd) (fun t ht=>by rw [c8S _ _ _ _ (by omega)]; exact hM.zero t ht) (by rw [d5X _ _ _ (by omega),hvn,Nat.one_mul]) (c2Y _ _ _)
              refine Wp.done (Wp.brnT bi (Wp.brnT (c3E _) (Wp.brnT bi ?_)))
              refine Wp.again ⟨rfl,rfl,rfl,?_,?_,hl4,?_⟩ hmb
              ·
               show -1 ≤ (I.sub bit4 (I.of .i64 1)).val; omega
              ·
               show (I.sub bit4 (I.of .i64 1)).val ≤ 15; omega
              ·
               show DivMid a4 (setAt q4 (I.nat i4) (I.add (rd0 q4 i4.val.toNat) (I.shl (I.of .i64 1) (I.conv .u64 bit4)))) r4 n i4.val.toNat ((I.sub bit4 (I.of .i64 1)).val + 1).toNat
               rw [hV,a6Q,esb]
               exact st
            ·
             exact ⟨rfl,rfl,rfl,rfl,rfl,rfl,by show s3.length = _; omega,hsd,by show 0 ≤ (I.of .i64 0).val; decide,by show (I.of .i64 0).val ≤ _; omega,rfl⟩
            ·
             exact b8C _ (by show ((b3.length + 1:Int) - (I.of .i64 0).val).toNat < _; omega)
          ·
           refine ⟨rfl,rfl,rfl,rfl,rfl,rfl,?_,?_,?_⟩
           ·
            show 0 ≤ (I.ofNat .i64 (a0I s3)).val; omega
           ·
            show (I.ofNat .i64 (a0I s3)).val ≤ _; omega
           ·
            show bv (s3.take (I.ofNat .i64 (a0I s3)).val.toNat) = _
            rw [hols,Int.toNat_natCast,List.take_length]
          ·
           refine b8C _ ?_
           show (I.ofNat .i64 (a0I s3)).val.toNat < _
           omega
       ·
        refine ⟨rfl,rfl,rfl,rfl,rfl,rfl,?_,?_,?_⟩
        ·
         show 0 ≤ (I.ofNat .i64 (a0I s)).val; omega
        ·
         show (I.ofNat .i64 (a0I s)).val ≤ _; omega
        ·
         show bv (s.take (I.ofNat .i64 (a0I s)).val.toNat) = _
         rw [hols,Int.toNat_natCast,List.take_length]
       ·
        refine b8C _ ?_
        show (I.ofNat .i64 (a0I s)).val.toNat < _
        omega
     ·
      refine ⟨rfl,rfl,rfl,rfl,rfl,?_,by show 0 ≤ (I.of .i64 0).val; decide,by show (I.of .i64 0).val ≤ (r.length:Int); omega,?_⟩
      ·
       show 0 ≤ (I.and (I.shr (rd0 a1 i1.val.toNat) (I.conv .u64 bit)) (I.of .i64 1)).val
       rw [hbv]; omega
      ·
       show DblInv r bv0 (I.nat (I.and (I.shr (rd0 a1 i1.val.toNat) (I.conv .u64 bit)) (I.of .i64 1))) (I.of .i64 0).val.toNat r
       have e:I.nat (I.and (I.shr (rd0 a1 i1.val.toNat) (I.conv .u64 bit)) (I.of .i64 1)) = bv0:=by
        show (I.and (I.shr (rd0 a1 i1.val.toNat) (I.conv .u64 bit)) (I.of .i64 1)).val.toNat = _
        rw [hbv,Int.toNat_natCast]
       rw [e]
       refine ⟨rfl,hM.rd,rfl,hbv1,?_⟩
       have e0:(I.of .i64 0).val.toNat = 0:=rfl
       rw [e0]
       simp [bv]
     ·
      exact b8C _ (by show ((r.length:Int) - (I.of .i64 0).val).toNat < _; omega)
    ·
     have hbz:=niff_leb.1 h
     have hbz:bit.val < (I.of .i64 0).val:=hbz
     clear h
     have e0:(bit.val + 1).toNat = 0:=by omega
     rw [e0] at hM
     refine Wp.done (Wp.again ⟨rfl,rfl,?_,?_,hrl,?_⟩ hmi)
     ·
      show -1 ≤ (I.sub i1 (I.of .i64 1)).val; omega
     ·
      show (I.sub i1 (I.of .i64 1)).val < _; omega
     ·
      show DivOut a1 q r n ((I.sub i1 (I.of .i64 1)).val + 1).toNat
      rw [show ((I.sub i1 (I.of .i64 1)).val + 1).toNat = i1.val.toNat by omega]
      exact mid_end hM
   ·
    have hz:=niff_leb.1 h
    have hz:i.val < (I.of .i64 0).val:=hz
    clear h
    have e0:(i.val + 1).toNat = 0:=by omega
    rw [e0] at hI
    have heq:=hI.eq
    have hlt:=hI.lt
    have hqd:=hI.qd
    have hrd:=hI.rd
    have hql:=hI.ql
    simp only [List.drop_zero] at heq
    rw [ha.val] at heq
    have hQ:bv q0 = m / n:=by rw [heq,Nat.mul_comm,Nat.mul_add_div (by omega),Nat.div_eq_of_lt hlt,Nat.add_zero]
    have hR:bv r0 = m % n:=by rw [heq,Nat.mul_comm,Nat.mul_add_mod,Nat.mod_eq_of_lt hlt]
    have holq:(I.ofNat .i64 (a0I q0)).val = q0.length:=a3H (by show q0.length < _; omega)
    have holr0:(I.ofNat .i64 (a0I r0)).val = r0.length:=a3H (by show r0.length < _; omega)
    have hq2:q0.length ≤ 1073741824:=by omega
    have hr2:r0.length ≤ 1073741824:=by omega
    clear heq hI hrl hlt
    refine Wp.done ?_
    refine Wp.iter (fun x=>x.2.1 = q0∧x.2.2.1 = r0∧0 ≤ x.1.1.val∧x.1.1.val ≤ (q0.length:Int)∧bv (q0.take x.1.1.val.toNat) = bv q0) (fun x=>x.1.1.val.toNat) ?_ ?_ ?_
    ·
     rintro ⟨⟨j,⟨⟩⟩,q1,r1,⟨⟩⟩ ⟨k0,k1,hj0,hj1,hbt⟩
     simp only at k0 k1 hj0 hj1 hbt
     subst k0 k1
     refine Wp.brn (fun h=>?_) (fun h=>?_)
     have hjp:=iff_ltb.1 h
     have hjp:(I.of .i64 0).val < j.val:=hjp
     clear h
     obtain ⟨sj,bj,z1,z2⟩:=d7Q (l:=q1) (j:=j) hqd hjp hj1 hq2 hbt
     refine Wp.brnT bj (Wp.brn (fun h2=>?_) (fun h2=>?_))
     ·
      refine Wp.again ⟨rfl,rfl,?_,?_,z1 h2⟩ ?_
      ·
       show 0 ≤ (I.sub j (I.of .i64 1)).val; omega
      ·
       show (I.sub j (I.of .i64 1)).val ≤ _; omega
      ·
       show (I.sub j (I.of .i64 1)).val.toNat < j.val.toNat
       omega
     have hB:=z2 h2
     clear z1 z2 h2 bj sj
     rotate_left
     have hjz:=niff_ltb.1 h
     have hjz:j.val ≤ (I.of .i64 0).val:=hjz
     clear h
     have hB:=d0R (l:=q1) (j:=j) hj0 (by omega) hbt
     all_goals
      refine Wp.done (Wp.brnT (e4W hj0 hj1) ?_)
      have hQB:=hB
      clear hB
      generalize a4N q1 0 (I.nat j) = ql2 at hQB
      clear hbt hj0 hj1
      refine Wp.iter (fun x=>x.1.2.1 = ql2∧x.2.1 = r1∧0 ≤ x.1.1.val∧x.1.1.val ≤ (r1.length:Int)∧bv (r1.take x.1.1.val.toNat) = bv r1) (fun x=>x.1.1.val.toNat) ?_ ?_ ?_
      ·
       rintro ⟨⟨j,ql2,⟨⟩⟩,r1,⟨⟩⟩ ⟨k0,k1,hj0,hj1,hbt⟩
       simp only at k0 k1 hj0 hj1 hbt
       subst k0 k1
       refine Wp.brn (fun h=>?_) (fun h=>?_)
       have hjp:=iff_ltb.1 h
       have hjp:(I.of .i64 0).val < j.val:=hjp
       clear h
       obtain ⟨sj,bj,z1,z2⟩:=d7Q (l:=r1) (j:=j) hrd hjp hj1 hr2 hbt
       refine Wp.brnT bj (Wp.brn (fun h2=>?_) (fun h2=>?_))
       ·
        refine Wp.again ⟨rfl,rfl,?_,?_,z1 h2⟩ ?_
        ·
         show 0 ≤ (I.sub j (I.of .i64 1)).val; omega
        ·
         show (I.sub j (I.of .i64 1)).val ≤ _; omega
        ·
         show (I.sub j (I.of .i64 1)).val.toNat < j.val.toNat
         omega
       have hB:=z2 h2
       clear z1 z2 h2 bj sj
       rotate_left
       have hjz:=niff_ltb.1 h
       have hjz:j.val ≤ (I.of .i64 0).val:=hjz
       clear h
       have hB:=d0R (l:=r1) (j:=j) hj0 (by omega) hbt
       all_goals
        refine Wp.done (Wp.brnT (e4W hj0 hj1) ?_)
        refine ⟨_,_,rfl,?_,?_⟩
        ·
         show IsB ql2 (m / n)
         rw [← hQ]; exact hQB
        ·
         show IsB (a4N r1 0 (I.nat j)) (m % n)
         rw [← hR]; exact hB
      ·
       refine ⟨rfl,rfl,?_,?_,?_⟩
       ·
        show 0 ≤ (I.ofNat .i64 (a0I r1)).val; omega
       ·
        show (I.ofNat .i64 (a0I r1)).val ≤ _; omega
       ·
        show bv (r1.take (I.ofNat .i64 (a0I r1)).val.toNat) = _
        rw [holr0,Int.toNat_natCast,List.take_length]
      ·
       refine b8C _ ?_
       show (I.ofNat .i64 (a0I r1)).val.toNat < _
       omega
    ·
     refine ⟨rfl,rfl,?_,?_,?_⟩
     ·
      show 0 ≤ (I.ofNat .i64 (a0I q0)).val; omega
     ·
      show (I.ofNat .i64 (a0I q0)).val ≤ _; omega
     ·
      show bv (q0.take (I.ofNat .i64 (a0I q0)).val.toNat) = _
      rw [holq,Int.toNat_natCast,List.take_length]
    ·
     refine b8C _ ?_
     show (I.ofNat .i64 (a0I q0)).val.toNat < _
     omega
  ·
   have hsub1:(I.sub (I.ofNat .i64 (a0I a)) (I.of .i64 1)).val = a.length - 1:=by rw [a8B (by omega)]; omega
   refine ⟨rfl,rfl,?_,?_,?_,?_⟩
   ·
    show -1 ≤ (I.sub (I.ofNat .i64 (a0I a)) (I.of .i64 1)).val; omega
   ·
    show (I.sub (I.ofNat .i64 (a0I a)) (I.of .i64 1)).val < _; omega
   ·
    show (b8F (I.nat (I.add (I.ofNat .i64 (a0I b)) (I.of .i64 1))) (I.of .i64 0)).length = _
    rw [b2E,hbn]
   ·
    show DivOut a (b8F (I.nat (I.ofNat .i64 (a0I a))) (I.of .i64 0)) (b8F (I.nat (I.add (I.ofNat .i64 (a0I b)) (I.of .i64 1))) (I.of .i64 0)) n ((I.sub (I.ofNat .i64 (a0I a)) (I.of .i64 1)).val + 1).toNat
    rw [hsub1,hn,show ((a.length:Int) - 1 + 1).toNat = a.length by omega]
    refine ⟨b2E _ _,c2E _,c2E _,by rw [d7O]; omega,fun s _=>d7Z _ _,?_⟩
    rw [List.drop_of_length_le (Nat.le_refl _),List.drop_of_length_le (by rw [b2E]; omega),d7O]
    simp [bv]
  ·
   have hsub1:(I.sub (I.ofNat .i64 (a0I a)) (I.of .i64 1)).val = a.length - 1:=by rw [a8B (by omega)]; omega
   exact b8C _ (by show ((I.sub (I.ofNat .i64 (a0I a)) (I.of .i64 1)).val + 1).toNat < _; omega)
 exact key.out
end Sym

/- Signed numbers: the law of quotients. -/
namespace Sym
open Go
theorem e3C {s:SB} {z:Int} {l:List Dg} {d:Nat} (hs:IsSB s z) (hl:IsB l d) (hd:d ≠ 0) (hz:Bd z.natAbs) (hdl:l.length ≤ 900000):∃ r:SB,a4U K0 ((s,l,()),()) = some ((r,()),())∧IsSB r (z / (d:Int)):=by
 have key:Wp (fun o=>∃ r:SB,o = some ((r,()),())∧IsSB r (z / (d:Int))) (a4U K0 ((s,l,()),())):=by
  unfold a4U
  obtain ⟨q,r,hqr,hQ,hR⟩:∃ (q r:List Dg),a3J K0 ((s.2.1,l,()),()) = some ((q,r,()),())∧IsB q (z.natAbs / d)∧IsB r (z.natAbs % d):=c4H hs.abs hl hd (Bd.len hs.abs hz) hdl
  have hqb:Bd (z.natAbs / d):=Nat.lt_of_le_of_lt (Nat.div_le_self _ _) hz
  have hqb1:z.natAbs / d + 1 < 65536 ^ 65:=by
   have h1:z.natAbs / d < 65536 ^ 64:=hqb
   have h2:65536 ^ 64 < 65536 ^ 65:=by decide
   omega
  have hrb:Bd (z.natAbs % d):=Nat.lt_of_le_of_lt (Nat.mod_le _ _) hz
  have hql:=Bd.len hQ hqb
  have hrl:=Bd.len hR hrb
  have hol:(I.ofNat .i64 (a0I r)).val = r.length:=a3H (by show r.length < _; omega)
  have c0:(I.of .i64 0).val = 0:=rfl
  have hrp:=f1C hR
  have hbit:I.ltb (I.of .i64 0) (I.ofNat .i64 (a0I r)) = decide (z.natAbs % d ≠ 0):=by
   unfold I.ltb
   rw [c0,hol]
   have:((0:Int) < (r.length:Int)) ↔ z.natAbs % d ≠ 0:=by omega
   simp only [this]
  refine Wp.optF hqr ?_
  refine Wp.jn (fun x=>x.1.1 = q∧x.1.2.1 = (s.1 && decide (z.natAbs % d ≠ 0))∧x.2.1.1 = s.1) ?_ ?_
  ·
   rintro ⟨⟨q',b,⟨⟩⟩,⟨n,l',⟨⟩⟩,r',⟨⟩⟩ ⟨e1,e2,e3⟩
   simp only at e1 e2 e3
   subst e1 e2
   have hneg:=hs.neg
   by_cases hz0:z < 0
   ·
    have hn:n = true:=by rw [e3,hneg]; exact decide_eq_true hz0
    have hdiv:z / (d:Int) = if z.natAbs % d = 0 then -((z.natAbs / d:Nat):Int) else -((z.natAbs / d + 1:Nat):Int):=by
     have h1:=g3B z.natAbs d (by omega)
     have h2:-(z.natAbs:Int) = z:=by omega
     rw [h2] at h1
     exact h1
    by_cases hm:z.natAbs % d = 0
    ·
     rw [if_pos hm] at hdiv
     refine Wp.brnF (by show (s.1 && decide (z.natAbs % d ≠ 0)) = false; simp [hm]) ?_
     obtain ⟨t,ht,hT⟩:=b7I n hQ hql
     refine Wp.optF ht ⟨t,rfl,?_⟩
     rw [hdiv]
     subst hn
     exact hT
    ·
     rw [if_neg hm] at hdiv
     refine Wp.brnT (by show (s.1 && decide (z.natAbs % d ≠ 0)) = true; rw [hneg,decide_eq_true hz0]; simp [hm]) ?_
     obtain ⟨o,ho,hO⟩:=a1K (I.of .u64 1)
     refine Wp.optF ho ?_
     have h1:(I.of .u64 1).nat = 1:=rfl
     rw [h1] at hO
     obtain ⟨q2,hq2,hQ2⟩:=b2F hQ hO hql (Bd.len hO (by unfold Bd; decide))
     refine Wp.optF hq2 ?_
     obtain ⟨t,ht,hT⟩:=b7I n hQ2 (len_small' hQ2 65 hqb1 (by decide))
     refine Wp.optF ht ⟨t,rfl,?_⟩
     rw [hdiv]
     subst hn
     exact hT
   ·
    have hn:n = false:=by rw [e3,hneg]; exact decide_eq_false hz0
    refine Wp.brnF (by show (s.1 && decide (z.natAbs % d ≠ 0)) = false; rw [hneg,decide_eq_false hz0]; rfl) ?_
    obtain ⟨t,ht,hT⟩:=b7I n hQ hql
    refine Wp.optF ht ⟨t,rfl,?_⟩
    have h2:z / (d:Int) = ((z.natAbs / d:Nat):Int):=by
     rw [Int.natCast_ediv]
     congr 1
     omega
    rw [h2]
    subst hn
    exact hT
  ·
   intro j hj
   cases hs1:s.1 with
   | false=>exact Wp.brnF rfl (hj _ ⟨rfl,by rw [hs1]; rfl,rfl⟩)
   | true=>exact Wp.brnT rfl (hj _ ⟨rfl,by rw [hs1]; exact hbit,rfl⟩)
 exact key.out
end Sym

/- Parameters: which are valid. -/
namespace Sym
open Go
abbrev Prm:Type:=I .u64 × I .u64 × I .u64 × U × I .u64 × U × I .u64 × U × I .u64 × I .u64 × I .u64 × I .u64 × Unit
def h0Y (p:Prm):Nat→U
 | 1=>d3I p.1
 | 2=>d3I p.2.1
 | 3=>d3I p.2.2.1
 | 4=>p.2.2.2.1
 | 5=>d3I p.2.2.2.2.1
 | 6=>p.2.2.2.2.2.1
 | 7=>d3I p.2.2.2.2.2.2.1
 | 8=>p.2.2.2.2.2.2.2.1
 | 9=>d3I p.2.2.2.2.2.2.2.2.1
 | 10=>d3I p.2.2.2.2.2.2.2.2.2.1
 | 11=>d3I p.2.2.2.2.2.2.2.2.2.2.1
 | _=>d3I p.2.2.2.2.2.2.2.2.2.2.2.1
def loK (p:Prm):Nat→I .u64
 | 1=>I.of .u64 1
 | 2=>I.of .u64 0
 | 3=>I.of .u64 1
 | 4=>I.of .u64 1
 | 5=>I.of .u64 1
 | 6=>I.of .u64 0
 | 7=>I.of .u64 0
 | 8=>I.of .u64 0
 | 9=>I.of .u64 1
 | 10=>I.of .u64 1
 | 11=>I.of .u64 0
 | _=>p.2.2.2.2.2.2.2.2.2.2.1
def hiK:Nat→I .u64
 | 1=>I.of .u64 1099511627776
 | 2=>I.of .u64 1048576
 | 3=>I.of .u64 1048576
 | 4=>I.of .u64 18446744073709551615
 | 5=>I.of .u64 1099511627776
 | 6=>I.of .u64 18446744073709551615
 | 7=>I.of .u64 10000
 | 8=>I.of .u64 18446744073709551615
 | 9=>I.of .u64 1099511627776
 | 10=>I.of .u64 1048576
 | 11=>I.of .u64 1048576
 | _=>I.of .u64 16777216
def okK (p:Prm) (k:Nat):Bool:=decide ((loK p k).nat ≤ (h0Y p k).val∧(h0Y p k).val ≤ (hiK k).nat)
def fiF (p:Prm):Nat→Nat→I .i64
 | 0,_=>I.of .i64 0
 | n + 1,k=>if okK p k = true then fiF p n (k + 1) else I.of .i64 (k:Int)
def fiS (p:Prm):I .i64:=fiF p 12 1
theorem h0G (a b c:I .u64):a3K K0 ((a,b,c,()),()) = some ((decide (b.nat ≤ a.nat∧a.nat ≤ c.nat),()),()):=by
 have ha:=a2A a
 have hb:=a2A b
 have hc:=a2A c
 refine Wp.out (T:=fun o=>o = some ((decide (b.nat ≤ a.nat∧a.nat ≤ c.nat),()),())) ?_
 unfold a3K
 refine Wp.brn (fun h=>?_) (fun h=>?_)
 ·
  rw [iff_leb] at h
  show some ((I.leb a c,()),()) = _
  have:I.leb a c = decide (b.nat ≤ a.nat∧a.nat ≤ c.nat):=by
   by_cases h2:a.nat ≤ c.nat
   ·
    rw [decide_eq_true (by omega),iff_leb]; omega
   ·
    rw [decide_eq_false (by omega),niff_leb]; omega
  rw [this]
 ·
  rw [niff_leb] at h
  show some ((false,()),()) = _
  rw [decide_eq_false (by omega)]
theorem d1Q (a:U):a7D K0 ((a,()),()) = some (if a.val < 18446744073709551616 then ((a.1,true,()),()) else ((I.of .u64 0,false,()),())):=by
 refine Wp.out (T:=fun o=>o = some (if a.val < 18446744073709551616 then ((a.1,true,()),()) else ((I.of .u64 0,false,()),()))) ?_
 have h0:=a3I a.1
 have n1:=a2A a.2.1
 have n2:=a2A a.2.2.1
 have n3:=a2A a.2.2.2.1
 have hv:a.val = a.1.nat + 18446744073709551616 * (a.2.1.nat + 18446744073709551616 * (a.2.2.1.nat + 18446744073709551616 * a.2.2.2.1.nat)):=rfl
 have e0:(I.of .u64 0).val = 0:=rfl
 unfold a7D
 refine Wp.brn (fun h=>?_) (fun h=>?_)
 ·
  rw [iff_neb,e0] at h; replace h:a.2.1.val ≠ 0:=h
  show some ((I.of .u64 0,false,()),()) = _
  rw [if_neg (by omega)]
 ·
  rw [niff_neb,e0] at h; replace h:a.2.1.val = 0:=h
  refine Wp.brn (fun h2=>?_) (fun h2=>?_)
  ·
   rw [iff_neb,e0] at h2; replace h2:a.2.2.1.val ≠ 0:=h2
   show some ((I.of .u64 0,false,()),()) = _
   rw [if_neg (by omega)]
  ·
   rw [niff_neb,e0] at h2; replace h2:a.2.2.1.val = 0:=h2
   refine Wp.brn (fun h3=>?_) (fun h3=>?_)
   ·
    rw [iff_neb,e0] at h3; replace h3:a.2.2.2.1.val ≠ 0:=h3
    show some ((I.of .u64 0,false,()),()) = _
    rw [if_neg (by omega)]
   ·
    rw [niff_neb,e0] at h3; replace h3:a.2.2.2.1.val = 0:=h3
    show some ((a.1,true,()),()) = _
    rw [if_pos (by omega)]
theorem c9A (a:U) (b:I .u64):a5Y K0 ((a,b,()),()) = some ((decide (b.nat ≤ a.val∧a.val ≤ 18446744073709551615),()),()):=by
 refine Wp.out (T:=fun o=>o = some ((decide (b.nat ≤ a.val∧a.val ≤ 18446744073709551615),()),())) ?_
 have hb:=a2A b
 have h0:=a2A a.1
 have h0':=a3I a.1
 have hv:a.val = a.1.nat + 18446744073709551616 * (a.2.1.nat + 18446744073709551616 * (a.2.2.1.nat + 18446744073709551616 * a.2.2.2.1.nat)):=rfl
 unfold a5Y
 refine Wp.optF (d1Q a) ?_
 by_cases h:a.val < 18446744073709551616
 ·
  rw [if_pos h]
  refine Wp.brnT rfl ?_
  show some ((I.leb b a.1,()),()) = _
  have:I.leb b a.1 = decide (b.nat ≤ a.val∧a.val ≤ 18446744073709551615):=by
   by_cases h2:b.nat ≤ a.1.nat
   ·
    rw [decide_eq_true (by omega),iff_leb]; omega
   ·
    rw [decide_eq_false (by omega),niff_leb]; omega
  rw [this]
 ·
  rw [if_neg h]
  refine Wp.brnF rfl ?_
  show some ((false,()),()) = _
  rw [decide_eq_false (by omega)]
theorem f4H (a b c:I .u64):a3K K0 ((a,b,c,()),()) = some ((decide (b.nat ≤ (d3I a).val∧(d3I a).val ≤ c.nat),()),()):=by
 rw [h0G,c5F]
theorem g5D {R:Type} (b:Bool) (x y:R):brn (a5Q b) x y = if b = true then y else x:=by cases b <;> rfl
theorem d0G (p:Prm):a6T K0 ((p,()),()) = some ((fiS p,()),()):=by
 refine Wp.out (T:=fun o=>o = some ((fiS p,()),())) ?_
 unfold a6T
 refine Wp.optF (f4H _ _ _) (Wp.optF (f4H _ _ _) (Wp.optF (f4H _ _ _) (Wp.optF (c9A _ _) (Wp.optF (f4H _ _ _) (Wp.optF (c9A _ _) (Wp.optF (f4H _ _ _) (Wp.optF (c9A _ _) (Wp.optF (f4H _ _ _) (Wp.optF (f4H _ _ _) (Wp.optF (f4H _ _ _) (Wp.optF (f4H _ _ _) ?_)))))))))))
 have step:∀ (n k:Nat) (r:Option (((I .i64) × Unit) × Unit)),r = some ((fiF p n (k + 1),()),())→brn (a5Q (okK p k)) (some ((I.of .i64 (k:Int),()),())) r = some ((fiF p (n + 1) k,()),()):=by
  intro n k r hr
  rw [g5D,hr]
  show _ = some ((if okK p k = true then fiF p n (k + 1) else I.of .i64 (k:Int),()),())
  split <;> rfl
 exact step 11 1 _ (step 10 2 _ (step 9 3 _ (step 8 4 _ (step 7 5 _ (step 6 6 _ (step 5 7 _ (step 4 8 _ (step 3 9 _ (step 2 10 _ (step 1 11 _ (step 0 12 _ rfl)))))))))))
def a6W (p:Prm):Bool:=I.eqb (fiS p) (I.of .i64 0)
theorem b6B (p:Prm):a3L K0 ((p,()),()) = some ((a6W p,()),()):=by
 refine Wp.out (T:=fun o=>o = some ((a6W p,()),())) ?_
 unfold a3L
 exact Wp.optF (d0G p) rfl
theorem e5X (p:Prm):∀ (n k:Nat),1 ≤ k→k + n ≤ 14→(I.eqb (fiF p n k) (I.of .i64 0) = true ↔ ∀ j,k ≤ j→j < k + n→okK p j = true)
 | 0,k,h1,h2=>⟨fun _ j _ _=>by omega,fun _=>rfl⟩
 | n + 1,k,h1,h2=>by
  show I.eqb (if okK p k = true then fiF p n (k + 1) else I.of .i64 (k:Int)) (I.of .i64 0) = true ↔ _
  by_cases h:okK p k = true
  ·
   rw [if_pos h,e5X p n (k + 1) (by omega) (by omega)]
   constructor
   ·
    intro hj j h3 h4
    by_cases hjk:j = k
    ·
     subst hjk; exact h
    ·
     exact hj j (by omega) (by omega)
   ·
    intro hj j h3 h4
    exact hj j (by omega) (by omega)
  ·
   rw [if_neg h,iff_eqb,b7M ⟨by omega,by omega⟩]
   constructor
   ·
    intro h3
    replace h3:(k:Int) = 0:=h3
    omega
   ·
    intro hj
    exact absurd (hj k (by omega) (by omega)) h
theorem c8I (p:Prm):a6W p = true ↔ ∀ j,1 ≤ j→j < 13→okK p j = true:=e5X p 12 1 (by omega) (by omega)
theorem e8S {p:Prm} (h:a6W p = true):1 ≤ p.2.2.2.2.2.2.2.2.1.nat∧p.2.2.2.2.2.2.2.2.1.nat ≤ 1099511627776∧1 ≤ p.2.2.2.2.2.2.2.2.2.1.nat:=by
 rw [c8I] at h
 have h9:=of_decide_eq_true (h 9 (by omega) (by omega))
 have h10:=of_decide_eq_true (h 10 (by omega) (by omega))
 replace h9:(I.of .u64 1).nat ≤ (d3I p.2.2.2.2.2.2.2.2.1).val∧(d3I p.2.2.2.2.2.2.2.2.1).val ≤ (I.of .u64 1099511627776).nat:=h9
 replace h10:(I.of .u64 1).nat ≤ (d3I p.2.2.2.2.2.2.2.2.2.1).val∧(d3I p.2.2.2.2.2.2.2.2.2.1).val ≤ (I.of .u64 1048576).nat:=h10
 rw [c5F] at h9 h10
 have e1:(I.of .u64 1).nat = 1:=rfl
 have e2:(I.of .u64 1099511627776).nat = 1099511627776:=rfl
 rw [e1] at h9 h10
 rw [e2] at h9
 exact ⟨h9.1,h9.2,h10.1⟩
end Sym

/- The price of a unit: what the program computes. -/
namespace Sym
open Go
def d2T (n o:Int) (u E J:Nat):S × I .i64 :=
 if (n - o).natAbs < U.top then
  if (-n / (E:Int) - (n - o) / (u:Int)).natAbs < U.top then
   if ((-n / (E:Int) - (n - o) / (u:Int)) * (u:Int)).natAbs < U.top then (S.of ((-n / (E:Int) - (n - o) / (u:Int)) * (u:Int) / ((E / J + u:Nat):Int)),I.of .i64 0)
   else (S.of 0,I.of .i64 4)
  else (S.of 0,I.of .i64 4)
 else (S.of 0,I.of .i64 4)
theorem b3J {c:Bool} (h:a5Q c = true):c = false:=by
 cases c
 ·
  rfl
 ·
  cases h
theorem b3G {c:Bool} (h:a5Q c = false):c = true:=by
 cases c
 ·
  cases h
 ·
  rfl
def Prm.eq (p:Prm):I .u64:=p.2.2.2.2.2.2.2.2.1
def Prm.inertia (p:Prm):I .u64:=p.2.2.2.2.2.2.2.2.2.1
def c1P (a b:S) (u:I .u64) (p:Prm):S × I .i64 :=
 if a6W p = true then
  if a9F a = true then
   if a9F b = true then
    if u.nat = 0 then (S.of 0,I.of .i64 2)
    else d2T a.int b.int u.nat (Prm.eq p).nat (Prm.inertia p).nat
   else (S.of 0,I.of .i64 2)
  else (S.of 0,I.of .i64 2)
 else (S.of 0,I.of .i64 15)
theorem f7P {a b:S} {u:I .u64} {p:Prm} (hp:a6W p = true) (ha:a9F a = true) (hb:a9F b = true) (hu:u.nat ≠ 0):c1P a b u p = d2T a.int b.int u.nat (Prm.eq p).nat (Prm.inertia p).nat:=by
 unfold c1P
 rw [if_pos hp,if_pos ha,if_pos hb,if_neg hu]
theorem d0P (u:I .u64):I.eqb u (I.of .u64 0) = true ↔ u.nat = 0:=by
 rw [iff_eqb]
 have:=a2A u
 have e0:(I.of .u64 0).val = 0:=rfl
 omega
def c2M (c:U) (a b:S) (u:I .u64) (p:Prm):U × I .i64 :=
 if a6W p = true then
  if a9F a = true then
   if a9F b = true then
    if u.nat = 0 then (c,I.of .i64 0)
    else if I.neb (c1P a b u p).2 (I.of .i64 0) = true then (U.of 0,(c1P a b u p).2) else d5S c (c1P a b u p).1
   else (U.of 0,I.of .i64 2)
  else (U.of 0,I.of .i64 2)
 else (U.of 0,I.of .i64 15)
end Sym

/- The price of a unit: the laws over valid parameters. -/
namespace Sym
open Go
theorem c5L (a b:I .u64) (h:a.nat + b.nat < 18446744073709551616):(I.add a b).nat = a.nat + b.nat:=by
 rw [g2R]; exact Nat.mod_eq_of_lt h
end Sym

/- What the fees rest on. -/

/- The compression: what both programs compute. -/
namespace Sym
open Go
abbrev B8:Type:=I .u8
def at8 (b:List B8) (i:Nat):B8:=rdL (I.of .u8 0) b i
def d3J (b:List B8) (p d:Nat):Nat→Nat→Nat
 | 0,n=>n
 | f + 1,n=>if I.eqb (at8 b (p + n)) (at8 b (p + n - d)) = true then d3J b p d f (n + 1) else n
theorem e3R (b:List B8) (p d:Nat):∀ f n,n ≤ d3J b p d f n∧d3J b p d f n ≤ n + f
 | 0,n=>⟨Nat.le_refl _,Nat.le_refl _⟩
 | f + 1,n=>by
  have:=e3R b p d f (n + 1)
  show n ≤ (if I.eqb (at8 b (p + n)) (at8 b (p + n - d)) = true then d3J b p d f (n + 1) else n)∧(if I.eqb (at8 b (p + n)) (at8 b (p + n - d)) = true then d3J b p d f (n + 1) else n) ≤ _
  split <;> omega
theorem e0T (b:List B8) (p d:Nat) (hb:b.length ≤ 1073741824) (hm:p ≤ b.length) (hd:1 ≤ d) (hdp:d ≤ p):a7Q K0 ((b,i6 p,i6 d,()),()) = some ((i6 (d3J b p d (min 131 (b.length - p)) 0),()),()):=by
 obtain ⟨m,em⟩:∃ m,m = min 131 (b.length - p):=⟨_,rfl⟩
 rw [← em]
 refine Wp.out (T:=fun o=>o = some ((i6 (d3J b p d m 0),()),())) ?_
 unfold a7Q
 refine Wp.iter (fun x=>∃ n,n ≤ m∧x = ((b,i6 p,i6 d,i6 n,()),())∧d3J b p d (m - n) n = d3J b p d m 0) (fun x=>m - x.1.2.2.2.1.val.toNat) ?_ ⟨0,by omega,rfl,rfl⟩ ?_
 ·
  rintro x ⟨n,hn,rfl,hf⟩
  have hout:¬ n < m→Wp (Rnd (fun o=>o = some ((i6 (d3J b p d m 0),()),())) (fun x=>∃ n,n ≤ m∧x = ((b,i6 p,i6 d,i6 n,()),())∧d3J b p d (m - n) n = d3J b p d m 0) (fun x=>m - x.1.2.2.2.1.val.toNat) (m - (i6 n).val.toNat)) (Stp.done (some ((i6 n,()),()))):=by
   intro h
   refine Wp.done ?_
   show some ((i6 n,()),()) = _
   rw [← hf,show m - n = 0 by omega]
   rfl
  refine Wp.brn (fun h0=>?_) (fun h0=>?_)
  ·
   have h0:I.ltb (i6 n) (i6 131) = true:=h0
   rw [a3A (by omega) (by omega)] at h0
   have h0:=of_decide_eq_true h0
   refine Wp.brn (fun h=>?_) (fun h=>?_)
   ·
    have h:I.ltb (I.add (i6 p) (i6 n)) (i6 b.length) = true:=h
    rw [a4C (by omega),a3A (by omega) (by omega)] at h
    have h:=of_decide_eq_true h
    simp only [a4C (show p + n < 9223372036854775808 by omega),c0A (show p + n < 9223372036854775808 by omega) (show d ≤ p + n by omega),a3N (show p + n < 9223372036854775808 by omega),a3N (show p + n - d < 9223372036854775808 by omega)]
    refine Wp.brnT (a3S (by show p + n < b.length; omega) (by omega)) (Wp.brnT (a3S (by show p + n - d < b.length; omega) (by omega)) ?_)
    obtain ⟨k,hk⟩:∃ k,m - n = k + 1:=⟨m - n - 1,by omega⟩
    rw [hk] at hf
    have hf':(if I.eqb (at8 b (p + n)) (at8 b (p + n - d)) = true then d3J b p d k (n + 1) else n) = d3J b p d m 0:=hf
    refine Wp.brn (fun h2=>?_) (fun h2=>?_)
    ·
     rw [if_pos (show I.eqb (at8 b (p + n)) (at8 b (p + n - d)) = true from h2)] at hf'
     refine Wp.again ⟨n + 1,by omega,?_,by rw [show m - (n + 1) = k by omega]; exact hf'⟩ ?_
     ·
      show ((b,i6 p,i6 d,I.add (i6 n) (i6 1),()),()) = _
      rw [a4C (by omega)]
     ·
      show m - (I.add (i6 n) (i6 1)).val.toNat < m - (i6 n).val.toNat
      rw [a4C (by omega),a0V (by omega),a0V (by omega)]
      omega
    ·
     rw [if_neg (show ¬ I.eqb (at8 b (p + n)) (at8 b (p + n - d)) = true by rw [show I.eqb (at8 b (p + n)) (at8 b (p + n - d)) = false from h2]; simp)] at hf'
     refine Wp.done ?_
     show some ((i6 n,()),()) = _
     rw [hf']
   ·
    have h:I.ltb (I.add (i6 p) (i6 n)) (i6 b.length) = false:=h
    rw [a4C (by omega),a3A (by omega) (by omega)] at h
    have h:=of_decide_eq_false h
    exact hout (by omega)
  ·
   have h0:I.ltb (i6 n) (i6 131) = false:=h0
   rw [a3A (by omega) (by omega)] at h0
   have h0:=of_decide_eq_false h0
   exact hout (by omega)
 ·
  exact b8C _ (by show m - (i6 0).val.toNat < _; omega)
def bst (b:List B8) (p m:Nat):Nat→Nat→Nat × Nat→Nat × Nat
 | 0,_,r=>r
 | f + 1,d,r=>bst b p m f (d + 1) (if r.1 < d3J b p d m 0 then (d3J b p d m 0,d) else r)
theorem f7X (b:List B8) (p m:Nat):∀ f d r,r.1 ≤ m→1 ≤ d→d + f ≤ 1025→(1 ≤ r.1→1 ≤ r.2∧r.2 ≤ 1024)→r.2 ≤ 1024→(bst b p m f d r).1 ≤ m∧(bst b p m f d r).2 ≤ 1024∧(1 ≤ (bst b p m f d r).1→1 ≤ (bst b p m f d r).2∧(bst b p m f d r).2 ≤ 1024)
 | 0,d,r,h,_,_,h1,h2=>⟨h,h2,h1⟩
 | f + 1,d,r,h,hd,hf,h1,h2=>by
  have h3:=(e3R b p d m 0).2
  refine f7X b p m f (d + 1) _ ?_ (by omega) (by omega) ?_ ?_
  ·
   split <;> omega
  ·
   split
   ·
    intro _; simp only; omega
   ·
    exact h1
  ·
   split <;> omega
def b0K (b:List B8) (p:Nat):Nat × Nat:=bst b p (min 131 (b.length - p)) (min 1024 p) 1 (0,0)
theorem f7K (b:List B8) (p:Nat):(b0K b p).1 ≤ min 131 (b.length - p)∧(b0K b p).2 ≤ 1024∧(1 ≤ (b0K b p).1→1 ≤ (b0K b p).2∧(b0K b p).2 ≤ 1024) :=
 f7X b p _ _ 1 (0,0) (by simp) (by omega) (by omega) (by simp) (by simp)
theorem f4P (b:List B8) (p:Nat) (hb:b.length ≤ 1073741824) (hp:p ≤ b.length):b4J K0 ((b,i6 p,()),()) = some ((i6 (b0K b p).1,i6 (b0K b p).2,()),()):=by
 obtain ⟨m,em⟩:∃ m,m = min 131 (b.length - p):=⟨_,rfl⟩
 obtain ⟨D,eD⟩:∃ D,D = min 1024 p:=⟨_,rfl⟩
 have eS:b0K b p = bst b p m D 1 (0,0):=by rw [em,eD]; rfl
 rw [eS]
 refine Wp.out (T:=fun o=>o = some ((i6 (bst b p m D 1 (0,0)).1,i6 (bst b p m D 1 (0,0)).2,()),())) ?_
 unfold b4J
 refine Wp.iter (fun x=>∃ d r,1 ≤ d∧d ≤ D + 1∧r.1 ≤ m∧r.2 ≤ D∧x = ((b,i6 p,i6 r.1,i6 r.2,i6 d,()),())∧bst b p m (D + 1 - d) d r = bst b p m D 1 (0,0)) (fun x=>D + 1 - x.1.2.2.2.2.1.val.toNat) ?_ ⟨1,(0,0),by omega,by omega,by simp,by simp,rfl,by rw [show D + 1 - 1 = D by omega]⟩ ?_
 ·
  rintro x ⟨d,r,h1,h2,h3,h4,rfl,hf⟩
  refine Wp.jn (fun x1=>d ≤ D∧x1.1.1 = b∧x1.1.2.1 = i6 p∧x1.1.2.2.1 = i6 r.1∧x1.1.2.2.2.1 = i6 r.2∧x1.1.2.2.2.2.1 = i6 d) ?_ ?_
  ·
   rintro ⟨⟨y1,y2,y3,y4,y6,y7,y8,y9,⟨⟩⟩,⟨⟩⟩ ⟨hd,e1,e2,e3,e4,e6⟩
   simp only at e1 e2 e3 e4 e6
   subst e1 e2 e3 e4 e6
   refine Wp.optF (e0T y1 p d hb hp h1 (by omega)) ?_
   rw [← em]
   have hml:=(e3R y1 p d m 0).2
   obtain ⟨k,hk⟩:∃ k,D + 1 - d = k + 1:=⟨D - d,by omega⟩
   rw [hk] at hf
   have hf':bst y1 p m k (d + 1) (if r.1 < d3J y1 p d m 0 then (d3J y1 p d m 0,d) else r) = bst y1 p m D 1 (0,0):=hf
   have hmu:D + 1 - (I.add (i6 d) (i6 1)).val.toNat < D + 1 - (i6 d).val.toNat:=by
    rw [a4C (by omega),a0V (by omega),a0V (by omega)]
    omega
   refine Wp.brn (fun h=>?_) (fun h=>?_)
   ·
    have h:I.ltb (i6 r.1) (i6 (d3J y1 p d m 0)) = true:=h
    rw [a3A (by omega) (by omega)] at h
    have h:=of_decide_eq_true h
    rw [if_pos h] at hf'
    refine Wp.again ⟨d + 1,(d3J y1 p d m 0,d),by omega,by omega,by simp only; omega,by simp only; omega,?_,by rw [show D + 1 - (d + 1) = k by omega]; exact hf'⟩ hmu
    show ((y1,i6 p,i6 (d3J y1 p d m 0),i6 d,I.add (i6 d) (i6 1),()),()) = _
    rw [a4C (by omega)]
   ·
    have h:I.ltb (i6 r.1) (i6 (d3J y1 p d m 0)) = false:=h
    rw [a3A (by omega) (by omega)] at h
    have h:=of_decide_eq_false h
    rw [if_neg h] at hf'
    refine Wp.again ⟨d + 1,r,by omega,by omega,h3,h4,?_,by rw [show D + 1 - (d + 1) = k by omega]; exact hf'⟩ hmu
    show ((y1,i6 p,i6 r.1,i6 r.2,I.add (i6 d) (i6 1),()),()) = _
    rw [a4C (by omega)]
  ·
   intro j hj
   have hend:¬ d ≤ D→Wp (Rnd (fun o=>o = some ((i6 (bst b p m D 1 (0,0)).1,i6 (bst b p m D 1 (0,0)).2,()),())) (fun x=>∃ d r,1 ≤ d∧d ≤ D + 1∧r.1 ≤ m∧r.2 ≤ D∧x = ((b,i6 p,i6 r.1,i6 r.2,i6 d,()),())∧bst b p m (D + 1 - d) d r = bst b p m D 1 (0,0)) (fun x=>D + 1 - x.1.2.2.2.2.1.val.toNat) (D + 1 - (i6 d).val.toNat)) (Stp.done (some ((i6 r.1,i6 r.2,()),()))):=by
    intro h
    refine Wp.done ?_
    show some ((i6 r.1,i6 r.2,()),()) = _
    rw [← hf,show D + 1 - d = 0 by omega]
    rfl
   refine Wp.brn (fun h=>?_) (fun h=>?_)
   ·
    have h:I.leb (i6 d) (i6 1024) = true:=h
    rw [e0M (by omega) (by omega)] at h
    have h:=of_decide_eq_true h
    refine Wp.brn (fun h5=>?_) (fun h5=>?_)
    ·
     have h5:I.leb (i6 d) (i6 p) = true:=h5
     rw [e0M (by omega) (by omega)] at h5
     have h5:=of_decide_eq_true h5
     exact hj _ ⟨by omega,rfl,rfl,rfl,rfl,rfl⟩
    ·
     have h5:I.leb (i6 d) (i6 p) = false:=h5
     rw [e0M (by omega) (by omega)] at h5
     have h5:=of_decide_eq_false h5
     exact hend (by omega)
   ·
    have h:I.leb (i6 d) (i6 1024) = false:=h
    rw [e0M (by omega) (by omega)] at h
    have h:=of_decide_eq_false h
    exact hend (by omega)
 ·
  exact b8C _ (by show D + 1 - (i6 1).val.toNat < _; omega)
end Sym

/- The compression: both programs answer alike. -/
namespace Sym
open Go
def lits:Nat→List B8→List B8→List B8
 | 0,out,_=>out
 | f + 1,out,s=>if s.length = 0 then out else lits f ((out ++ [I.of .u8 ((min s.length 127:Nat):Int)]) ++ s.take (min s.length 127)) (s.drop (min s.length 127))
theorem d9T:∀ f g out (s:List B8),s.length ≤ f→s.length ≤ g→lits f out s = lits g out s
 | 0,0,_,_,_,_=>rfl
 | 0,g + 1,out,s,h,_=>by
  show out = if s.length = 0 then out else _
  rw [if_pos (by omega)]
 | f + 1,0,out,s,_,h=>by
  show (if s.length = 0 then out else _) = out
  rw [if_pos (by omega)]
 | f + 1,g + 1,out,s,h,h'=>by
  show (if s.length = 0 then out else lits f _ _) = if s.length = 0 then out else lits g _ _
  by_cases h0:s.length = 0
  ·
   rw [if_pos h0,if_pos h0]
  ·
   rw [if_neg h0,if_neg h0]
   exact d9T f g _ _ (by rw [List.length_drop]; omega) (by rw [List.length_drop]; omega)
def e1Q (out s:List B8):List B8:=lits s.length out s
theorem e5Y (out:List B8) {s:List B8} (h:s.length = 0):e1Q out s = out:=by
 unfold e1Q
 rw [h]
 rfl
theorem c7X (out:List B8) {s:List B8} (h:s.length ≠ 0):e1Q out s = e1Q ((out ++ [I.of .u8 ((min s.length 127:Nat):Int)]) ++ s.take (min s.length 127)) (s.drop (min s.length 127)):=by
 unfold e1Q
 obtain ⟨k,hk⟩:∃ k,s.length = k + 1:=⟨s.length - 1,by omega⟩
 have:lits s.length out s = lits (k + 1) out s:=by rw [hk]
 rw [this]
 show (if s.length = 0 then out else lits k _ _) = _
 rw [if_neg h]
 exact d9T _ _ _ _ (by rw [List.length_drop]; omega) (Nat.le_refl _)
def tok (r:Nat × Nat):List B8:=[I.of .u8 ((r.1 + 124:Nat):Int),I.of .u8 (((r.2 - 1) / 256:Nat):Int),I.of .u8 (((r.2 - 1) % 256:Nat):Int)]
def g1L (b:List B8):Nat→Nat→Nat→List B8→List B8
 | 0,fr,_,out=>e1Q out (b.drop fr)
 | f + 1,fr,p,out=>if p < b.length then (if (b0K b p).1 < 4 then g1L b f fr (p + 1) out else g1L b f (p + (b0K b p).1) (p + (b0K b p).1) (e1Q out (a4N b fr (p - fr)) ++ tok (b0K b p))) else e1Q out (b.drop fr)
def d9I (b:List B8):List B8:=g1L b b.length 0 0 []
theorem f4Q {b:List B8} {f fr p:Nat} {out:List B8} (h:b.length ≤ p):g1L b f fr p out = e1Q out (b.drop fr):=by
 cases f with
 | zero=>rfl
 | succ f =>
  show (if p < b.length then _ else e1Q out (b.drop fr)) = _
  rw [if_neg (by omega)]
theorem c8A {n:Nat} (h:n < 9223372036854775808):I.conv (k:=.i64) .u8 (i6 n) = I.of .u8 (n:Int):=by
 unfold I.conv
 rw [a0V h]
theorem g5U {n:Nat} (h:n < 9223372036854775808):I.quo (i6 n) (i6 256) = i6 (n / 256):=by
 apply I.ext'
 rw [b9M (by rw [a0V h]; omega) (by decide),a0V h,a0V (by omega),a0V (by omega)]
 omega
theorem g4J {n:Nat} (h:n < 9223372036854775808):I.rem (i6 n) (i6 256) = i6 (n % 256):=by
 apply I.ext'
 rw [b7H (by rw [a0V h]; omega) (by decide),a0V h,a0V (by omega),a0V (by omega)]
 omega
end Sym

/- The compression of the reference. -/
namespace Sym
open Go
theorem d9F (b:List B8) (hb:b.length ≤ 100000000):a9P K0 ((b,()),()) = some ((d9I b,()),())∧True:=by
 refine Wp.out (T:=fun o=>o = some ((d9I b,()),())∧True) ?_
 unfold a9P
 refine Wp.iter (fun x=>∃ fr p out f,fr ≤ p∧p ≤ b.length∧out.length ≤ 2 * fr∧b.length - p ≤ f∧x = ((b,i6 fr,i6 p,()),(out,()))∧g1L b f fr p out = d9I b) (fun x=>b.length - x.1.2.2.1.val.toNat) ?_ ⟨0,0,[],b.length,by omega,by omega,by simp,by omega,rfl,rfl⟩ ?_
 ·
  rintro x ⟨fr,p,out,f,h1,h2,h3,h4,rfl,hf⟩
  refine Wp.brn (fun h=>?_) (fun h=>?_)
  ·
   have h:I.ltb (i6 p) (i6 b.length) = true:=h
   rw [a3A (by omega) (by omega)] at h
   have h:=of_decide_eq_true h
   obtain ⟨k,rfl⟩:∃ k,f = k + 1:=⟨f - 1,by omega⟩
   have hf':(if p < b.length then (if (b0K b p).1 < 4 then g1L b k fr (p + 1) out else g1L b k (p + (b0K b p).1) (p + (b0K b p).1) (e1Q out (a4N b fr (p - fr)) ++ tok (b0K b p))) else e1Q out (b.drop fr)) = d9I b:=hf
   rw [if_pos h] at hf'
   refine Wp.optF (f4P b p (by omega) h2) ?_
   obtain ⟨q1,q2,q3⟩:=f7K b p
   refine Wp.brn (fun h5=>?_) (fun h5=>?_)
   ·
    have h5:I.ltb (i6 (b0K b p).1) (i6 4) = true:=h5
    rw [a3A (by omega) (by omega)] at h5
    have h5:=of_decide_eq_true h5
    rw [if_pos h5] at hf'
    refine Wp.again ⟨fr,p + 1,out,k,by omega,by omega,h3,by omega,?_,hf'⟩ ?_
    ·
     show ((b,i6 fr,I.add (i6 p) (i6 1),()),(out,())) = _
     rw [a4C (by omega)]
    ·
     show b.length - (I.add (i6 p) (i6 1)).val.toNat < b.length - (i6 p).val.toNat
     rw [a4C (by omega),a0V (by omega),a0V (by omega)]
     omega
   ·
    have h5:I.ltb (i6 (b0K b p).1) (i6 4) = false:=h5
    rw [a3A (by omega) (by omega)] at h5
    have h5:=of_decide_eq_false h5
    rw [if_neg h5] at hf'
    have ep:I.nat (i6 p) = p:=a3N (by omega)
    have ef:I.nat (i6 fr) = fr:=a3N (by omega)
    simp only [ep,ef]
    refine Wp.brnT (i6_inB' (by omega) (by omega)) (Wp.brnT (i6_inB' h2 (by omega)) ?_)
    generalize hs0:a4N b fr (p - fr) = s0 at hf' ⊢
    have hs0l:s0.length = p - fr:=by rw [← hs0]; simp [a4N]; omega
    refine Wp.iter (fun y=>∃ s o,y = ((s,b,i6 p,i6 (b0K b p).1,i6 (b0K b p).2,()),(o,()))∧e1Q o s = e1Q out s0∧o.length + 2 * s.length ≤ 2 * p) (fun y=>y.1.1.length) ?_ ⟨s0,out,rfl,rfl,by omega⟩ (b8C _ (by show s0.length < _; omega))
    rintro y ⟨s,o,rfl,hl,hlen⟩
    refine Wp.brn (fun h6=>?_) (fun h6=>?_)
    ·
     have h6:I.ltb (i6 0) (i6 s.length) = true:=h6
     rw [a3A (by omega) (by omega)] at h6
     have h6:=of_decide_eq_true h6
     refine Wp.brn (fun h7=>?_) (fun h7=>?_)
     ·
      have h7:I.ltb (i6 127) (i6 s.length) = true:=h7
      rw [a3A (by omega) (by omega)] at h7
      have h7:=of_decide_eq_true h7
      simp only [c4P,c1J]
      refine Wp.brnT (iff_fits.2 (by simp [a2B,a0I]; omega)) (Wp.brnT (i6_inB' (n:=127) (by show 127 ≤ s.length; omega) (by omega)) (Wp.brnT (iff_fits.2 (by simp [a2B,a0I]; omega)) (Wp.brnT (i6_inB' (n:=127) (by show 127 ≤ s.length; omega) (by omega)) ?_)))
      refine Wp.again ⟨s.drop 127,(o ++ [I.of .u8 ((127:Nat):Int)]) ++ s.take 127,rfl,?_,?_⟩ ?_
      ·
       rw [← hl,c7X o (by omega),show min s.length 127 = 127 by omega]
      ·
       simp only [List.length_append,List.length_cons,List.length_nil,List.length_take,List.length_drop]
       omega
      ·
       show (s.drop 127).length < s.length
       rw [List.length_drop]; omega
     ·
      have h7:I.ltb (i6 127) (i6 s.length) = false:=h7
      rw [a3A (by omega) (by omega)] at h7
      have h7:=of_decide_eq_false h7
      have em':I.ofNat .i64 (a0I s) = i6 s.length:=rfl
      simp only [em',a3N (show s.length < 9223372036854775808 by omega),c8A (show s.length < 9223372036854775808 by omega),c4P,c1J]
      refine Wp.brnT (iff_fits.2 (by simp [a2B,a0I]; omega)) (Wp.brnT (i6_inB' (n:=s.length) (by show s.length ≤ s.length; omega) (by omega)) (Wp.brnT (iff_fits.2 (by simp [a2B,a0I]; omega)) (Wp.brnT (i6_inB' (n:=s.length) (by show s.length ≤ s.length; omega) (by omega)) ?_)))
      refine Wp.again ⟨s.drop s.length,(o ++ [I.of .u8 ((s.length:Nat):Int)]) ++ s.take s.length,rfl,?_,?_⟩ ?_
      ·
       rw [← hl,c7X o (by omega),show min s.length 127 = s.length by omega]
      ·
       simp only [List.length_append,List.length_cons,List.length_nil,List.length_take,List.length_drop]
       omega
      ·
       show (s.drop s.length).length < s.length
       rw [List.length_drop]; omega
    ·
     have h6:I.ltb (i6 0) (i6 s.length) = false:=h6
     rw [a3A (by omega) (by omega)] at h6
     have h6:=of_decide_eq_false h6
     rw [e5Y o (by omega)] at hl
     have et:a2B o ((I.conv (k:=.i64) .u8 (I.add (i6 (b0K b p).1) (I.of .i64 124))) :: ((I.conv (k:=.i64) .u8 (I.quo (I.sub (i6 (b0K b p).2) (I.of .i64 1)) (I.of .i64 256))) :: ((I.conv (k:=.i64) .u8 (I.rem (I.sub (i6 (b0K b p).2) (I.of .i64 1)) (I.of .i64 256))) :: []))) = o ++ tok (b0K b p):=by
      have e1:I.add (i6 (b0K b p).1) (I.of .i64 124) = i6 ((b0K b p).1 + 124):=a4C (m:=124) (by omega)
      have e2:I.sub (i6 (b0K b p).2) (I.of .i64 1) = i6 ((b0K b p).2 - 1):=c0A (m:=1) (by omega) (by omega)
      have e3:I.quo (i6 ((b0K b p).2 - 1)) (I.of .i64 256) = i6 (((b0K b p).2 - 1) / 256):=g5U (by omega)
      have e4:I.rem (i6 ((b0K b p).2 - 1)) (I.of .i64 256) = i6 (((b0K b p).2 - 1) % 256):=g4J (by omega)
      rw [e1,e2,e3,e4,c8A (by omega),c8A (by omega),c8A (by omega)]
      rfl
     refine Wp.done ?_
     rw [et]
     have hlt:(tok (b0K b p)).length = 3:=rfl
     refine Wp.brnT (iff_fits.2 (by simp only [a0I,List.length_append,hlt]; omega)) ?_
     have ea:I.add (i6 p) (i6 (b0K b p).1) = i6 (p + (b0K b p).1):=a4C (by omega)
     rw [ea]
     refine Wp.again ⟨p + (b0K b p).1,p + (b0K b p).1,o ++ tok (b0K b p),k,by omega,by omega,?_,by omega,rfl,?_⟩ ?_
     ·
      simp only [List.length_append,hlt]; omega
     ·
      rw [hl]; exact hf'
     ·
      show b.length - (i6 (p + (b0K b p).1)).val.toNat < b.length - (i6 p).val.toNat
      rw [a0V (by omega),a0V (by omega)]
      omega
  ·
   have h:I.ltb (i6 p) (i6 b.length) = false:=h
   rw [a3A (by omega) (by omega)] at h
   have h:=of_decide_eq_false h
   rw [f4Q (by omega)] at hf
   refine Wp.done ?_
   have ef:I.nat (i6 fr) = fr:=a3N (by omega)
   simp only [ef,c1J]
   refine Wp.brnT (i6_inB' (by show fr ≤ b.length; omega) (by omega)) ?_
   have hs0l:(b.drop fr).length = b.length - fr:=List.length_drop
   generalize b.drop fr = s0 at hf hs0l ⊢
   refine Wp.iter (fun y=>∃ s o,y = ((s,()),(o,()))∧e1Q o s = e1Q out s0∧o.length + 2 * s.length ≤ 2 * b.length) (fun y=>y.1.1.length) ?_ ⟨s0,out,rfl,rfl,by omega⟩ (b8C _ (by show s0.length < _; omega))
   rintro y ⟨s,o,rfl,hl,hlen⟩
   refine Wp.brn (fun h6=>?_) (fun h6=>?_)
   ·
    have h6:I.ltb (i6 0) (i6 s.length) = true:=h6
    rw [a3A (by omega) (by omega)] at h6
    have h6:=of_decide_eq_true h6
    refine Wp.brn (fun h7=>?_) (fun h7=>?_)
    ·
     have h7:I.ltb (i6 127) (i6 s.length) = true:=h7
     rw [a3A (by omega) (by omega)] at h7
     have h7:=of_decide_eq_true h7
     simp only [c4P,c1J]
     refine Wp.brnT (iff_fits.2 (by simp [a2B,a0I]; omega)) (Wp.brnT (i6_inB' (n:=127) (by show 127 ≤ s.length; omega) (by omega)) (Wp.brnT (iff_fits.2 (by simp [a2B,a0I]; omega)) (Wp.brnT (i6_inB' (n:=127) (by show 127 ≤ s.length; omega) (by omega)) ?_)))
     refine Wp.again ⟨s.drop 127,(o ++ [I.of .u8 ((127:Nat):Int)]) ++ s.take 127,rfl,?_,?_⟩ ?_
     ·
      rw [← hl,c7X o (by omega),show min s.length 127 = 127 by omega]
     ·
      simp only [List.length_append,List.length_cons,List.length_nil,List.length_take,List.length_drop]
      omega
     ·
      show (s.drop 127).length < s.length
      rw [List.length_drop]; omega
    ·
     have h7:I.ltb (i6 127) (i6 s.length) = false:=h7
     rw [a3A (by omega) (by omega)] at h7
     have h7:=of_decide_eq_false h7
     have em':I.ofNat .i64 (a0I s) = i6 s.length:=rfl
     simp only [em',a3N (show s.length < 9223372036854775808 by omega),c8A (show s.length < 9223372036854775808 by omega),c4P,c1J]
     refine Wp.brnT (iff_fits.2 (by simp [a2B,a0I]; omega)) (Wp.brnT (i6_inB' (n:=s.length) (by show s.length ≤ s.length; omega) (by omega)) (Wp.brnT (iff_fits.2 (by simp [a2B,a0I]; omega)) (Wp.brnT (i6_inB' (n:=s.length) (by show s.length ≤ s.length; omega) (by omega)) ?_)))
     refine Wp.again ⟨s.drop s.length,(o ++ [I.of .u8 ((s.length:Nat):Int)]) ++ s.take s.length,rfl,?_,?_⟩ ?_
     ·
      rw [← hl,c7X o (by omega),show min s.length 127 = s.length by omega]
     ·
      simp only [List.length_append,List.length_cons,List.length_nil,List.length_take,List.length_drop]
      omega
     ·
      show (s.drop s.length).length < s.length
      rw [List.length_drop]; omega
   ·
    have h6:I.ltb (i6 0) (i6 s.length) = false:=h6
    rw [a3A (by omega) (by omega)] at h6
    have h6:=of_decide_eq_false h6
    rw [e5Y o (by omega)] at hl
    refine Wp.done ?_
    rw [← hf,← hl]
    exact ⟨rfl,trivial⟩
 ·
  exact b8C _ (by show b.length - (i6 0).val.toNat < _; omega)
end Sym

/- The fees: units of data, gas, the shares. -/
namespace Sym
open Go
theorem Wp.jnZ {X R:Type} {T:R→Prop} {J:X→R} {f:(X→R)→R} (h:Wp T (f J)):Wp T (Sym.jn J f):=h
def b9R (b:List B8) (lo hi:I .u64):I .u64 × I .i64 :=
 if I.ltb hi lo = true then (I.of .u64 0,I.of .i64 2) else if 4096 < b.length then (I.of .u64 0,I.of .i64 6)
 else (I.mn (I.mx (I.mul (I.of .u64 16) (I.conv (k:=.i64) .u64 (i6 (d9I b).length))) lo) hi,I.of .i64 0)
theorem mul_comm' {k:IntKind} (a b:I k):I.mul a b = I.mul b a:=by unfold I.mul; rw [Int.mul_comm]
theorem f2T (b:List B8) (lo hi:I .u64) (hb:b.length ≤ 100000000):b1I K0 ((b,lo,hi,()),()) = some (((b9R b lo hi).1,(b9R b lo hi).2,()),()):=by
 refine Wp.out (T:=fun o=>o = some (((b9R b lo hi).1,(b9R b lo hi).2,()),())) ?_
 unfold b1I b9R
 refine Wp.brn (fun h=>?_) (fun h=>?_)
 ·
  rw [if_pos h]; rfl
 ·
  rw [if_neg (by rw [show I.ltb hi lo = false from h]; simp)]
  refine Wp.brn (fun h2=>?_) (fun h2=>?_)
  ·
   have h2:I.ltb (i6 4096) (i6 b.length) = true:=h2
   rw [a3A (by omega) (by omega)] at h2
   rw [if_pos (of_decide_eq_true h2)]; rfl
  ·
   have h2:I.ltb (i6 4096) (i6 b.length) = false:=h2
   rw [a3A (by omega) (by omega)] at h2
   rw [if_neg (of_decide_eq_false h2)]
   refine Wp.optF (d9F b hb).1 (Wp.jnZ ?_)
   have em:I.mul (I.conv (k:=.i64) .u64 (I.ofNat .i64 (a0I (d9I b)))) (I.of .u64 16) = I.mul (I.of .u64 16) (I.conv (k:=.i64) .u64 (i6 (d9I b).length)):=mul_comm' _ _
   simp only [em]
   generalize I.mul (I.of .u64 16) (I.conv (k:=.i64) .u64 (i6 (d9I b).length)) = n
   unfold I.mn I.mx
   refine Wp.brn (fun h3=>?_) (fun h3=>?_)
   ·
    have h3:=iff_ltb.1 h3
    rw [if_pos h3]
    refine Wp.brn (fun h4=>?_) (fun h4=>?_)
    ·
     have h4:=iff_ltb.1 h4; rw [if_pos h4]; rfl
    ·
     have h4:=niff_ltb.1 h4; rw [if_neg (Int.not_lt.2 h4)]; rfl
   ·
    have h3:=niff_ltb.1 h3
    rw [if_neg (Int.not_lt.2 h3)]
    refine Wp.brn (fun h4=>?_) (fun h4=>?_)
    ·
     have h4:=iff_ltb.1 h4; rw [if_pos h4]; rfl
    ·
     have h4:=niff_ltb.1 h4; rw [if_neg (Int.not_lt.2 h4)]; rfl
abbrev CH:Type:=I .u64 × I .u64 × I .u64 × I .u64 × Bool × U × U × U × U × U × Unit
def zU:U:=(I.of .u64 0,I.of .u64 0,I.of .u64 0,I.of .u64 0,())
def zCH:CH:=(I.of .u64 0,I.of .u64 0,I.of .u64 0,I.of .u64 0,false,zU,zU,zU,zU,zU,())
def g2C (data:List B8) (lim:I .u64) (base unit:U) (lo hi:I .u64):I .u64 × I .u64 × I .i64 :=
 if I.neb (b9R data lo hi).2 (I.of .i64 0) = true then (I.of .u64 0,I.of .u64 0,(b9R data lo hi).2)
 else if U.top ≤ (b9R data lo hi).1.nat * unit.val then (I.of .u64 0,I.of .u64 0,I.of .i64 4)
 else if lim.nat < (b9R data lo hi).1.nat * unit.val / base.val then (I.of .u64 0,I.of .u64 0,I.of .i64 13)
 else ((b9R data lo hi).1,I.of .u64 (((b9R data lo hi).1.nat * unit.val / base.val:Nat):Int),I.of .i64 0)
def f6J (lim ex po:I .u64):Nat:=min ex.nat (lim.nat - po.nat)
theorem g8H {n:Nat} (h:n < 18446744073709551616):(U.of n).1 = I.of .u64 (n:Int):=by
 unfold U.of
 rw [Nat.mod_eq_of_lt h]
theorem e2X {a b:I .u64} (h:a.nat = b.nat):a = b:=by
 apply I.ext'
 rw [← a2A,← a2A,h]
theorem e7Y (a b:I .u64) (h:b.nat ≤ a.nat):(I.sub a b).nat = a.nat - b.nat:=by
 have h1:=a2A a
 have h2:=a2A b
 have h3:=a2A (I.sub a b)
 rw [f3F (by omega)] at h3
 omega
theorem g5X (a b:I .u64):(I.mn a b).nat = min a.nat b.nat:=by
 have h1:=a2A a
 have h2:=a2A b
 unfold I.mn
 split <;> omega
def e4S (base icap:U) (e:Nat):Nat:=base.val * e - min icap.val base.val * e
def c7U (base icap:U) (bips:I .u64) (e:Nat):Nat:=e4S base icap e * bips.nat / 10000
def f2P (base icap tip:U) (bips:I .u64) (e used:Nat):Nat:=e4S base icap e - c7U base icap bips e + tip.val * used
def g0Y (c:CH) (base icap:U) (bips:I .u64):CH × I .i64 :=
 if U.top ≤ base.val * c.2.1.nat ∨ U.top ≤ base.val * c.2.2.1.nat ∨ U.top ≤ f2P base icap c.2.2.2.2.2.1 bips c.2.2.1.nat c.2.2.2.1.nat then (zCH,I.of .i64 4)
 else ((c.1,c.2.1,c.2.2.1,c.2.2.2.1,c.2.2.2.2.1,c.2.2.2.2.2.1,U.of (base.val * c.2.1.nat),U.of (min icap.val base.val * c.2.2.1.nat),U.of (f2P base icap c.2.2.2.2.2.1 bips c.2.2.1.nat c.2.2.2.1.nat),U.of (c7U base icap bips c.2.2.1.nat),()),I.of .i64 0)
end Sym

/- Audit: what a transaction took from its sender. -/
namespace Sym
open Go
theorem b4A {l:List Dg} {n k:Nat} (h:IsB l n) (hn:n < 65536 ^ k) (hk:k ≤ 1000000):l.length ≤ 1000000:=Nat.le_trans (h.len.2 hn) hk
theorem e9F:b1T K0 ((),()) = some ((true,()),()):=by
 rw [a7S]; kernel_rfl
end Sym

/- The price of a unit: unchanged, direction, damped. -/
namespace Sym
open Go
theorem f4R {n o:Int} {u E J:Nat} (h1:(n - o).natAbs < U.top) (h2:(-n / (E:Int) - (n - o) / (u:Int)).natAbs < U.top) (h3:((-n / (E:Int) - (n - o) / (u:Int)) * (u:Int)).natAbs < U.top):d2T n o u E J = (S.of ((-n / (E:Int) - (n - o) / (u:Int)) * (u:Int) / ((E / J + u:Nat):Int)),I.of .i64 0):=by
 unfold d2T
 rw [if_pos h1,if_pos h2,if_pos h3]
end Sym

/- The price of a unit: the reference computes the same. -/
namespace Sym
open Go
theorem bd3 {n:Nat} (h:n < 3 * U.top):Bd n:=Nat.lt_trans h (by decide)
theorem bd4 {n:Nat} (h:n < 3 * U.top * 18446744073709551616):Bd n:=Nat.lt_trans h (by decide)
theorem e2F {l:List Dg} {x:I .u64} (h:IsB l x.nat):l.length ≤ 4:=h.len.2 (Nat.lt_of_lt_of_le (a3I x) (by decide))
theorem g5K {l:List Dg} {n:Nat} (h:IsB l n):IsSB (false,l,()) (n:Int):=⟨(decide_eq_false (by omega)).symm,by rw [Int.natAbs_natCast]; exact h⟩
theorem f1Y (a b:S) (u:I .u64) (p:Prm):b1J K0 ((a,b,u,p,()),()) = some (((c1P a b u p).1,(c1P a b u p).2,()),()):=by
 refine Wp.out (T:=fun o=>o = some (((c1P a b u p).1,(c1P a b u p).2,()),())) ?_
 unfold b1J
 refine Wp.optF (b6B p) ?_
 refine Wp.brn (fun h=>?_) (fun h=>?_)
 ·
  have hp:a6W p = false:=b3J h
  unfold c1P
  rw [hp]
  rfl
 have hp:a6W p = true:=b3G h
 refine Wp.jn (fun s=>s.1.1 = u∧s.2.1 = a∧s.2.2.1 = b∧s.2.2.2.1 = p∧a9F a = true∧a9F b = true∧u.nat ≠ 0) ?_ ?_
 ·
  rintro ⟨⟨u',⟨⟩⟩,a',b',p',z',⟨⟩⟩ ⟨e0,e1,e2,e3,ha,hb,hu⟩
  simp only at e0 e1 e2 e3
  subst e0 e1 e2 e3
  obtain ⟨hE1,hE2,hJ⟩:1 ≤ (Prm.eq p').nat∧(Prm.eq p').nat ≤ 1099511627776∧1 ≤ (Prm.inertia p').nat:=e8S hp
  have htop:U.top = 115792089237316195423570985008687907853269984665640564039457584007913129639936:=rfl
  rw [f7P hp ha hb hu]
  have hx:=S.lt a'
  have hy:=S.lt b'
  have hun:=a3I u'
  obtain ⟨s2,q2,S2⟩:=c8R a'
  refine Wp.optF q2 ?_
  obtain ⟨s3,q3,S3⟩:=c8Y S2 (Bd.of_top hx)
  refine Wp.optF q3 ?_
  obtain ⟨l4,q4,B4⟩:=a1K (Prm.eq p')
  refine Wp.optF q4 ?_
  have L4:=e2F B4
  obtain ⟨s5,q5,S5⟩:=e3C S3 B4 (by omega) (Bd.of_top (by omega)) (by omega)
  refine Wp.optF q5 (Wp.optF q2 ?_)
  obtain ⟨s7,q7,S7⟩:=c8R b'
  refine Wp.optF q7 ?_
  obtain ⟨s8,q8,S8⟩:=c8Y S7 (Bd.of_top hy)
  refine Wp.optF q8 ?_
  obtain ⟨s9,q9,S9⟩:=d7E S2 S8 (Bd.of_top hx) (Bd.of_top (by omega)) (Bd.of_two (by omega))
  rw [← Int.sub_eq_add_neg] at S9
  refine Wp.optF q9 ?_
  obtain ⟨l10,q10,B10⟩:=a1K u'
  refine Wp.optF q10 ?_
  have L10:=e2F B10
  obtain ⟨s11,q11,S11⟩:=e3C S9 B10 hu (Bd.of_two (by omega)) (by omega)
  refine Wp.optF q11 ?_
  have f1:=d3G (-S.int a') (Prm.eq p').nat (by omega)
  have f2:=d3G (S.int a' - S.int b') u'.nat hu
  generalize hw:-S.int a' / ((Prm.eq p').nat:Int) = w at S5 f1
  generalize hv:(S.int a' - S.int b') / (u'.nat:Int) = v at S11 f2
  obtain ⟨s12,q12,S12⟩:=c8Y S11 (Bd.of_two (by omega))
  refine Wp.optF q12 ?_
  obtain ⟨s13,q13,S13⟩:=d7E S5 S12 (Bd.of_two (by omega)) (Bd.of_two (by omega)) (bd3 (by omega))
  rw [← Int.sub_eq_add_neg] at S13
  refine Wp.optF q13 (Wp.optF q10 ?_)
  have h13:(w - v).natAbs < 3 * U.top:=by omega
  have hmul:(w - v).natAbs * u'.nat < 3 * U.top * 18446744073709551616:=Nat.lt_of_le_of_lt (Nat.mul_le_mul_left _ (Nat.le_of_lt hun)) (Nat.mul_lt_mul_of_pos_right h13 (by decide))
  obtain ⟨s15,q15,S15⟩:=g1R S13 (g5K B10) (bd3 h13) (Bd.of_top (by omega)) (by rw [Int.natAbs_natCast]; exact bd4 hmul)
  refine Wp.optF q15 ?_
  have h15:((w - v) * (u'.nat:Int)).natAbs < 3 * U.top * 18446744073709551616:=by rw [Int.natAbs_mul,Int.natAbs_natCast]; exact hmul
  refine Wp.jn (fun s=>s.1.1 = u'∧s.2.1 = p'∧s.2.2.2.1 = s15∧(S.int a' - S.int b').natAbs < U.top∧(w - v).natAbs < U.top∧((w - v) * (u'.nat:Int)).natAbs < U.top) ?_ ?_
  ·
   rintro ⟨⟨u2,⟨⟩⟩,p2,z2,s2',⟨⟩⟩ ⟨e0,e1,e2,t1,t2,t3⟩
   simp only at e0 e1 e2
   subst e0 e1 e2
   obtain ⟨l17,q17,B17⟩:=a1K (Prm.eq p2)
   obtain ⟨l18,q18,B18⟩:=a1K (Prm.inertia p2)
   have L17:=e2F B17
   have L18:=e2F B18
   refine Wp.optF q17 (Wp.optF q18 ?_)
   obtain ⟨l19,m19,q19,B19,_⟩:=c4H B17 B18 (by omega) (by omega) (by omega)
   refine Wp.optF q19 (Wp.optF q10 ?_)
   have L19:l19.length ≤ 4:=B19.len.2 (Nat.lt_of_le_of_lt (Nat.div_le_self _ _) (Nat.lt_of_lt_of_le (a3I (Prm.eq p2)) (by decide)))
   obtain ⟨l21,q21,B21⟩:=b2F B19 B10 (Nat.le_trans L19 (by decide)) (Nat.le_trans L10 (by decide))
   refine Wp.optF q21 ?_
   have hby:u2.nat ≤ (Prm.eq p2).nat / (Prm.inertia p2).nat + u2.nat:=Nat.le_add_left _ _
   have hby2:(Prm.eq p2).nat / (Prm.inertia p2).nat ≤ (Prm.eq p2).nat:=Nat.div_le_self _ _
   have L21:l21.length ≤ 5:=B21.len.2 (Nat.lt_of_le_of_lt (show _ ≤ 1099511627776 + 18446744073709551616 by omega) (by decide))
   have hdz:d2T (S.int a') (S.int b') u2.nat (Prm.eq p2).nat (Prm.inertia p2).nat = (S.of ((w - v) * (u2.nat:Int) / (((Prm.eq p2).nat / (Prm.inertia p2).nat + u2.nat:Nat):Int)),I.of .i64 0):=by
    rw [f4R t1 (by rw [hw,hv]; exact t2) (by rw [hw,hv]; exact t3),hw,hv]
   rw [hdz]
   generalize (Prm.eq p2).nat / (Prm.inertia p2).nat + u2.nat = B at hby B21
   obtain ⟨s22,q22,S22⟩:=e3C S15 B21 (by omega) (bd4 h15) (Nat.le_trans L21 (by decide))
   refine Wp.optF q22 ?_
   have f3:=d3G ((w - v) * (u2.nat:Int)) B (by omega)
   refine Wp.optF (d1E S22 (Bd.of_top (by omega))) ?_
   rw [e3I (by omega)]
   rfl
  ·
   intro j hj
   have len9:=Bd.len S9.abs (Bd.of_two (by omega))
   have len13:=Bd.len S13.abs (bd3 h13)
   have len15:=Bd.len S15.abs (bd4 h15)
   refine Wp.optF (c2Q S9.abs (Nat.lt_of_le_of_lt len9 (by decide))) ?_
   unfold d2T
   rw [hw,hv]
   by_cases t1:(S.int a' - S.int b').natAbs < U.top
   ·
    rw [if_pos t1]
    refine Wp.brnF (by show a5Q (decide _) = false; rw [decide_eq_true t1]; rfl) ?_
    refine Wp.optF (c2Q S13.abs (Nat.lt_of_le_of_lt len13 (by decide))) ?_
    by_cases t2:(w - v).natAbs < U.top
    ·
     rw [if_pos t2]
     refine Wp.brnF (by show a5Q (decide _) = false; rw [decide_eq_true t2]; rfl) ?_
     refine Wp.optF (c2Q S15.abs (Nat.lt_of_le_of_lt len15 (by decide))) ?_
     by_cases t3:((w - v) * (u'.nat:Int)).natAbs < U.top
     ·
      refine Wp.brnF (by show a5Q (decide _) = false; rw [decide_eq_true t3]; rfl) ?_
      have:=hj ((u',()),(p',z',s15,())) ⟨rfl,rfl,rfl,t1,t2,t3⟩
      unfold d2T at this
      rw [hw,hv,if_pos t1,if_pos t2] at this
      exact this
     ·
      rw [if_neg t3]
      exact Wp.brnT (by show a5Q (decide _) = true; rw [decide_eq_false t3]; rfl) rfl
    ·
     rw [if_neg t2]
     exact Wp.brnT (by show a5Q (decide _) = true; rw [decide_eq_false t2]; rfl) rfl
   ·
    rw [if_neg t1]
    exact Wp.brnT (by show a5Q (decide _) = true; rw [decide_eq_false t1]; rfl) rfl
 ·
  intro j hj
  refine Wp.optF (b8M a) ?_
  refine Wp.brn (fun h=>?_) (fun h=>?_)
  ·
   have ha:a9F a = false:=b3J h
   unfold c1P
   rw [if_pos hp,ha]
   rfl
  ·
   have ha:a9F a = true:=b3G h
   refine Wp.optF (b8M b) ?_
   refine Wp.brn (fun h=>?_) (fun h=>?_)
   ·
    have hb:a9F b = false:=b3J h
    unfold c1P
    rw [if_pos hp,if_pos ha,hb]
    rfl
   ·
    have hb:a9F b = true:=b3G h
    refine Wp.brn (fun h=>?_) (fun h=>?_)
    ·
     have hu:=(d0P u).1 h
     unfold c1P
     rw [if_pos hp,if_pos ha,if_pos hb,if_pos hu]
     rfl
    ·
     have hu:u.nat ≠ 0:=fun h0=>by
      rw [(d0P u).2 h0] at h; cases h
     exact hj _ ⟨rfl,rfl,rfl,rfl,ha,hb,hu⟩
theorem f7W (c:U) (a b:S) (u:I .u64) (p:Prm):b2W K0 ((c,a,b,u,p,()),()) = some (((c2M c a b u p).1,(c2M c a b u p).2,()),()):=by
 refine Wp.out (T:=fun o=>o = some (((c2M c a b u p).1,(c2M c a b u p).2,()),())) ?_
 unfold b2W
 refine Wp.optF (b6B p) ?_
 refine Wp.brn (fun h=>?_) (fun h=>?_)
 ·
  have hp:a6W p = false:=b3J h
  unfold c2M
  rw [hp]
  rfl
 have hp:a6W p = true:=b3G h
 refine Wp.jn (fun s=>s.1.1 = u∧s.2.1 = c∧s.2.2.1 = a∧s.2.2.2.1 = b∧s.2.2.2.2.1 = p∧a9F a = true∧a9F b = true) ?_ ?_
 ·
  rintro ⟨⟨u',⟨⟩⟩,c',a',b',p',z',⟨⟩⟩ ⟨e0,e1,e2,e3,e4,ha,hb⟩
  simp only at e0 e1 e2 e3 e4
  subst e0 e1 e2 e3 e4
  unfold c2M
  rw [if_pos hp,if_pos ha,if_pos hb]
  refine Wp.brn (fun h=>?_) (fun h=>?_)
  ·
   have hu:=(d0P u').1 h
   rw [if_pos hu]
   rfl
  ·
   have hu:u'.nat ≠ 0:=fun h0=>by
    rw [(d0P u').2 h0] at h; cases h
   rw [if_neg hu]
   refine Wp.optF (f1Y _ _ _ _) ?_
   refine Wp.brn (fun h=>?_) (fun h=>?_)
   ·
    rw [if_pos h]
    rfl
   ·
    rw [if_neg (by rw [h]; decide)]
    exact Wp.optF (f2X _ _) rfl
 ·
  intro j hj
  refine Wp.optF (b8M a) ?_
  refine Wp.brn (fun h=>?_) (fun h=>?_)
  ·
   have ha:a9F a = false:=b3J h
   unfold c2M
   rw [if_pos hp,ha]
   rfl
  ·
   have ha:a9F a = true:=b3G h
   refine Wp.optF (b8M b) ?_
   refine Wp.brn (fun h=>?_) (fun h=>?_)
   ·
    have hb:a9F b = false:=b3J h
    unfold c2M
    rw [if_pos hp,if_pos ha,hb]
    rfl
   ·
    have hb:a9F b = true:=b3G h
    exact hj _ ⟨rfl,rfl,rfl,rfl,rfl,ha,hb⟩
end Sym

/- Binary heaps in lists. -/
namespace Sym
open Go
structure SOrd {α:Type} (lt:α→α→Bool):Prop where
 asymm:∀ a b,lt a b = true→lt b a = false
 trans:∀ a b c,lt b a = false→lt c b = false→lt c a = false
section
variable {α:Type} {lt:α→α→Bool} (d:α)
end
end Sym

/- The queue of debts: each function. -/
namespace Sym
open Go
abbrev Item:Type:=c3A
abbrev Post:Type:=a0A
noncomputable abbrev dI:Item:=c8C
noncomputable abbrev dP:Post:=a0S
abbrev Post.addr (p:Post):I .u64:=p.1
abbrev Post.due (p:Post):U:=p.2.1
abbrev Post.since (p:Post):I .u64:=p.2.2.2.2.2.1
def c3M (a b:Item):Bool :=
 brn (I.neb (Post.since a.1) (Post.since b.1)) (I.ltb (Post.since a.1) (Post.since b.1))
  (brn (I.neb (Post.addr a.1) (Post.addr b.1)) (I.ltb (Post.addr a.1) (Post.addr b.1)) (I.ltb a.2.1 b.2.1))
theorem d2N (a b:Item):c3M a b = true ↔ (Post.since a.1).val < (Post.since b.1).val ∨ ((Post.since a.1).val = (Post.since b.1).val∧((Post.addr a.1).val < (Post.addr b.1).val ∨ ((Post.addr a.1).val = (Post.addr b.1).val∧a.2.1.val < b.2.1.val))):=by
 unfold c3M
 cases h:I.neb (Post.since a.1) (Post.since b.1) with
 | true =>
  have h:=iff_neb.1 h
  show I.ltb _ _ = true ↔ _
  rw [iff_ltb]
  omega
 | false =>
  have h:=niff_neb.1 h
  show brn _ _ _ = true ↔ _
  cases h2:I.neb (Post.addr a.1) (Post.addr b.1) with
  | true =>
   have h2:=iff_neb.1 h2
   show I.ltb _ _ = true ↔ _
   rw [iff_ltb]
   omega
  | false =>
   have h2:=niff_neb.1 h2
   show I.ltb _ _ = true ↔ _
   rw [iff_ltb]
   omega
theorem b9I (a b:Item):c3M a b = false ↔ ¬ ((Post.since a.1).val < (Post.since b.1).val ∨ ((Post.since a.1).val = (Post.since b.1).val∧((Post.addr a.1).val < (Post.addr b.1).val ∨ ((Post.addr a.1).val = (Post.addr b.1).val∧a.2.1.val < b.2.1.val)))):=by
 rw [← d2N]
 simp
theorem lessO:SOrd c3M where
 asymm a b h:=by
  have h:=(d2N a b).1 h
  rw [b9I]
  omega
 trans a b c h1 h2:=by
  have h1:=(b9I _ _).1 h1
  have h2:=(b9I _ _).1 h2
  rw [b9I]
  omega
theorem c0I:I.of .i64 0 = i6 0:=rfl
theorem b4N:I.of .i64 1 = i6 1:=rfl
end Sym

/- The queue of debts: Len, Peek, Pop. -/
namespace Sym
open Go
end Sym

/- The queue of debts: New, Order and the reference's order. -/
namespace Sym
open Go
noncomputable def ow (p:Post):Bool:=a5Q (Ty.eqb (.arr 4 (.int .u64)) p.2.1 Z_U)
noncomputable def d0M:Nat→List Post→List Item
 | _,[]=>[]
 | k,p :: l=>(if ow p = true then [(p,(i6 k,()))] else []) ++ d0M (k + 1) l
theorem e5A:∀ (l m:List Post) (k:Nat),d0M k (l ++ m) = d0M k l ++ d0M (k + l.length) m
 | [],m,k=>by simp [d0M]
 | p :: l,m,k=>by
  simp only [List.cons_append,d0M,e5A l m (k + 1),List.append_assoc,List.length_cons]
  rw [show k + 1 + l.length = k + (l.length + 1) by omega]
theorem f5Y (p:Post) (k:Nat):d0M k [p] = if ow p = true then [(p,(i6 k,()))] else []:=by simp [d0M]
theorem d8F:∀ (l:List Post) (k:Nat),(d0M k l).length ≤ l.length
 | [],k=>Nat.le_refl _
 | p :: l,k=>by
  have:=d8F l (k + 1)
  simp only [d0M,List.length_append,List.length_cons]
  split <;> simp <;> omega
theorem d0L:∀ (l:List Post) (k:Nat) (x:Item),x ∈ d0M k l→∃ i,i < l.length∧x = (rdL dP l i,(i6 (k + i),()))∧ow x.1 = true
 | [],k,x,h=>by cases h
 | p :: l,k,x,h=>by
  simp only [d0M,List.mem_append] at h
  rcases h with h | h
  ·
   split at h
   ·
    rename_i hp
    have h:=List.mem_singleton.1 h
    subst h
    exact ⟨0,by simp,rfl,hp⟩
   ·
    cases h
  ·
   obtain ⟨i,hi,e,ho⟩:=d0L l (k + 1) x h
   exact ⟨i + 1,by simpa using hi,by rw [e,show k + 1 + i = k + (i + 1) by omega]; rfl,ho⟩
theorem f3A {a:List Post} {i:Nat} (h:i < a.length):d0M 0 (a.take (i + 1)) = d0M 0 (a.take i) ++ (if ow (rdL dP a i) = true then [(rdL dP a i,(i6 i,()))] else []):=by
 rw [List.take_succ_eq_append_getElem h,e5A,f5Y,List.length_take,Nat.min_eq_left (by omega),Nat.zero_add,a3X dP a i h]
theorem f0X {a:List Post} (ha:a.length ≤ 1073741824) {x y:Item} (hx:x ∈ d0M 0 a) (hy:y ∈ d0M 0 a) (h1:c3M y x = false) (h2:c3M x y = false):x = y:=by
 obtain ⟨i,hi,e1,_⟩:=d0L _ _ _ hx
 obtain ⟨j,hj,e2,_⟩:=d0L _ _ _ hy
 have h1:=(b9I _ _).1 h1
 have h2:=(b9I _ _).1 h2
 have a1:x.2.1.val = i:=by rw [e1]; show (i6 (0 + i)).val = _; rw [a0V (by omega)]; omega
 have a2:y.2.1.val = j:=by rw [e2]; show (i6 (0 + j)).val = _; rw [a0V (by omega)]; omega
 have:i = j:=by omega
 subst this
 rw [e1,e2]
noncomputable def d4D (a:List Post):List Item:=(d0M 0 a).mergeSort fun x y=>!c3M y x
theorem c4Y (a:List Post):(d4D a).Perm (d0M 0 a):=List.mergeSort_perm _ _
theorem f2Z (a:List Post):(d4D a).Pairwise fun x y=>c3M y x = false:=by
 have:=List.pairwise_mergeSort (le:=fun x y=>!c3M y x) (fun x y z h1 h2=>by
  simp only [Bool.not_eq_true'] at *
  exact lessO.trans _ _ _ h1 h2) (fun x y=>by
  cases h:c3M y x with
  | false=>rfl
  | true=>rw [lessO.asymm _ _ h]; rfl) (d0M 0 a)
 exact this.imp (by simp)
theorem e7S {a:List Post} (ha:a.length ≤ 1073741824) {r:List Item} (hp:r.Perm (d0M 0 a)) (ho:r.Pairwise fun x y=>c3M y x = false):r = d4D a :=
 List.Perm.eq_of_pairwise (le:=fun x y=>c3M y x = false) (fun x y hx hy h1 h2=>f0X ha (hp.mem_iff.1 hx) ((c4Y a).mem_iff.1 hy) h1 h2) ho (f2Z a) (hp.trans (c4Y a).symm)
theorem d9G (a:List Post):(d4D a).length ≤ a.length:=by rw [(c4Y a).length_eq]; exact d8F a 0
theorem h3D {p:Post}:Ty.eqb (.arr 4 (.int .u64)) p.2.1 Z_U = false→ow p = true:=fun h=>by unfold ow; rw [h]; rfl
theorem h1U {p:Post}:Ty.eqb (.arr 4 (.int .u64)) p.2.1 Z_U = true→ow p = false:=fun h=>by unfold ow; rw [h]; rfl
end Sym

/- The queue of debts: the reference, comparisons of lists. -/
namespace Sym
open Go
def gtP (y x:Post):Prop:=(Post.since x).val < (Post.since y).val ∨ ((Post.since y).val = (Post.since x).val∧(Post.addr x).val < (Post.addr y).val)
theorem e7U {r:List Item} {x:Item} {k:Nat} (hk:k ≤ r.length) (ho:r.Pairwise fun a b=>c3M b a = false) (hat:∀ y ∈ r,y.2.1.val < x.2.1.val)
  (h1:∀ q,k ≤ q→q < r.length→gtP (rdL dI r q).1 x.1) (h2:k = 0 ∨ ¬ gtP (rdL dI r (k - 1)).1 x.1) :
  (r.take k ++ x :: r.drop k).Pairwise fun a b=>c3M b a = false:=by
 rw [List.pairwise_append]
 have hd:∀ y ∈ r.drop k,c3M y x = false:=by
  intro y hy
  obtain ⟨q,hq,e⟩:=List.getElem_of_mem hy
  rw [List.getElem_drop] at e
  rw [List.length_drop] at hq
  have:=h1 (k + q) (by omega) (by omega)
  rw [a3X dI r _ (by omega),e] at this
  refine lessO.asymm _ _ ((d2N _ _).2 ?_)
  rcases this with h | ⟨h,h'⟩
  ·
   exact .inl h
  ·
   exact .inr ⟨h.symm,.inl h'⟩
 have ht:∀ y ∈ r.take k,c3M x y = false:=by
  intro y hy
  obtain ⟨q,hq,e⟩:=List.getElem_of_mem hy
  rw [List.length_take] at hq
  rw [List.getElem_take] at e
  have h2:=h2.resolve_left (by omega)
  have hlast:c3M x (rdL dI r (k - 1)) = false:=by
   rw [b9I]
   have hm:=hat _ (b7E dI r (k - 1) (by omega))
   unfold gtP at h2
   omega
  rcases Nat.lt_or_ge q (k - 1) with hc | hc
  ·
   have:=List.pairwise_iff_getElem.1 ho q (k - 1) (by omega) (by omega) hc
   rw [e,← a3X dI r (k - 1) (by omega)] at this
   exact lessO.trans _ _ _ this hlast
  ·
   have:q = k - 1:=by omega
   subst this
   rw [← e,← a3X dI r (k - 1) (by omega)]
   exact hlast
 refine ⟨ho.take,List.pairwise_cons.2 ⟨hd,ho.drop⟩,fun a ha b hb=>?_⟩
 rcases List.mem_cons.1 hb with rfl | hb
 ·
  exact ht a ha
 ·
  exact lessO.trans _ _ _ (ht a ha) (hd b hb)
theorem g4I {n:Nat} (h:n < 9223372036854775808):eqV (k:=.i64) (l:=.i64) (i6 n) (i6 n) = true:=by simp [eqV]
theorem f2J {a:List Post} (ha:a.length ≤ 1073741824):b0R K0 ((a,()),()) = some (((d4D a).map (·.1),()),()):=by
 refine Wp.out (T:=fun o=>o = some (((d4D a).map (·.1),()),())) ?_
 unfold b0R
 simp only [b0T,a9B,c0I,b4N]
 refine Wp.iter (fun s=>∃ i r,s = ((a,(i6 i,())),(r.map (·.1),()))∧i ≤ a.length∧r.Perm (d0M 0 (a.take i))∧r.Pairwise fun x y=>c3M y x = false) (fun s=>a.length - s.1.2.1.val.toNat) ?_ ⟨0,[],rfl,by omega,by simp [d0M],List.Pairwise.nil⟩ ?_
 ·
  rintro s ⟨i,r,rfl,hi,hp,ho⟩
  simp only [a3A (show i < 9223372036854775808 by omega) (show a.length < 9223372036854775808 by omega),a3N (show i < 9223372036854775808 by omega),a4C (show i + 1 < 9223372036854775808 by omega),List.length_map]
  have hlen:r.length ≤ i:=by
   rw [hp.length_eq]
   exact Nat.le_trans (d8F _ _) (by rw [List.length_take]; omega)
  refine Wp.brn (fun hc=>?_) (fun hc=>?_)
  ·
   have hc:=of_decide_eq_true hc
   have ht:=f3A hc
   have bi:inB (i6 i) a.length = true:=a3S (by omega) (by omega)
   have hm:a.length - (i6 (i + 1)).val.toNat < a.length - (i6 i).val.toNat:=by rw [a0V (by omega),a0V (by omega)]; omega
   refine Wp.brnT bi ?_
   refine Wp.brn (fun hd=>?_) (fun hd=>?_)
   ·
    rw [if_neg (by rw [show ow (rdL dP a i) = false from h1U hd]; simp),List.append_nil] at ht
    exact Wp.again ⟨i + 1,r,rfl,by omega,by rw [ht]; exact hp,ho⟩ hm
   ·
    rw [if_pos (show ow (rdL dP a i) = true from h3D hd)] at ht
    have hat:∀ y ∈ r,y.2.1.val < (i6 i).val:=by
     intro y hy
     obtain ⟨q,hq,e,_⟩:=d0L _ _ _ (hp.mem_iff.1 hy)
     rw [List.length_take] at hq
     rw [e]
     show (i6 (0 + q)).val < _
     rw [a0V (by omega),a0V (by omega)]
     omega
    have hrm:∀ q,q < r.length→rdL dP (r.map (·.1)) q = (rdL dI r q).1:=fun q hq=>by
     rw [a3X dP _ q (by simpa using hq),a3X dI r q hq,List.getElem_map]
    refine Wp.jn (fun s=>∃ k,s = ((a,(i6 i,(i6 k,()))),(r.map (·.1),()))∧k ≤ r.length∧(∀ q,k ≤ q→q < r.length→gtP (rdL dI r q).1 (rdL dP a i))∧(k = 0 ∨ ¬ gtP (rdL dI r (k - 1)).1 (rdL dP a i))) ?_ ?_
    ·
     rintro s ⟨k,rfl,hk,g1,g2⟩
     simp only [a3N (show k < 9223372036854775808 by omega),a3N (show i < 9223372036854775808 by omega),List.length_map,c4P]
     have bk:inB' (i6 k) r.length = true:=i6_inB' hk (by omega)
     have esub:a4N (r.map (·.1)) k (r.length - k) = (r.drop k).map (·.1):=by
      have:=c1J (r.map (·.1)) k
      rw [List.length_map] at this
      rw [this,List.map_drop]
     refine Wp.brnT bk (Wp.brnT (g4I (by omega)) (Wp.brnT bi (Wp.brnT bk ?_)))
     simp only [esub]
     refine Wp.brnT (b0J (by show ([rdL dP a i] ++ (r.drop k).map (·.1)).length ≤ _; simp; omega)) (Wp.brnT (b0J (by show ((r.map (·.1)).take k ++ ([rdL dP a i] ++ (r.drop k).map (·.1))).length ≤ _; simp; omega)) (Wp.brnF rfl ?_))
     simp only [a4C (show i + 1 < 9223372036854775808 by omega)]
     refine Wp.again ⟨i + 1,r.take k ++ (rdL dP a i,(i6 i,())) :: r.drop k,?_,by omega,?_,e7U hk ho hat g1 g2⟩ hm
     ·
      simp [a2B,List.map_take]
     ·
      rw [ht]
      refine (List.perm_middle).trans ?_
      rw [List.take_append_drop]
      exact (List.Perm.cons _ hp).trans (List.perm_append_comm (l₁:=[_]))
    ·
     intro j hj
     refine Wp.iter (fun s=>∃ k,s = ((a,(i6 i,(i6 k,()))),(r.map (·.1),()))∧k ≤ r.length∧(∀ q,k ≤ q→q < r.length→gtP (rdL dI r q).1 (rdL dP a i))) (fun s=>s.1.2.2.1.val.toNat) ?_ ⟨r.length,rfl,by omega,fun q h1 h2=>by omega⟩ ?_
     ·
      rintro s ⟨k,rfl,hk,g1⟩
      simp only [a3A (show 0 < 9223372036854775808 by omega) (show k < 9223372036854775808 by omega),a3N (show i < 9223372036854775808 by omega),List.length_map]
      refine Wp.brn (fun hk0=>?_) (fun hk0=>?_)
      ·
       have hk0:=of_decide_eq_true hk0
       simp only [c0A (show k < 9223372036854775808 by omega) (show 1 ≤ k by omega),a3N (show k - 1 < 9223372036854775808 by omega),hrm (k - 1) (by omega)]
       have bk:inB (i6 (k - 1)) r.length = true:=a3S (by omega) (by omega)
       have again:gtP (rdL dI r (k - 1)).1 (rdL dP a i)→(∃ k',(((a,(i6 i,(i6 (k - 1),()))),(r.map (·.1),())):(List Post × (I .i64 × (I .i64 × Unit))) × (List Post × Unit)) = ((a,(i6 i,(i6 k',()))),(r.map (·.1),()))∧k' ≤ r.length∧(∀ q,k' ≤ q→q < r.length→gtP (rdL dI r q).1 (rdL dP a i)))∧(i6 (k - 1)).val.toNat < (i6 k).val.toNat:=by
        intro hg
        refine ⟨⟨k - 1,rfl,by omega,fun q h1 h2=>?_⟩,by rw [a0V (by omega),a0V (by omega)]; omega⟩
        rcases (by omega:q = k - 1 ∨ k ≤ q) with rfl | h
        ·
         exact hg
        ·
         exact g1 q h h2
       have stop:¬ gtP (rdL dI r (k - 1)).1 (rdL dP a i)→Wp _ (j ((a,(i6 i,(i6 k,()))),(r.map (·.1),()))):=fun hg=>hj _ ⟨k,rfl,hk,g1,.inr hg⟩
       refine Wp.brnT bk (Wp.brnT bi ?_)
       refine Wp.brn (fun h1=>?_) (fun h1=>?_)
       ·
        have h1:=iff_ltb.1 h1
        exact Wp.again (again (.inl h1)).1 (again (.inl h1)).2
       ·
        have h1:=niff_ltb.1 h1
        refine Wp.brnT bk (Wp.brnT bi ?_)
        refine Wp.brn (fun h2=>?_) (fun h2=>?_)
        ·
         have h2:=iff_eqb.1 h2
         refine Wp.brnT bk (Wp.brnT bi ?_)
         refine Wp.brn (fun h3=>?_) (fun h3=>?_)
         ·
          have h3:=iff_ltb.1 h3
          exact Wp.again (again (.inr ⟨h2,h3⟩)).1 (again (.inr ⟨h2,h3⟩)).2
         ·
          have h3:=niff_ltb.1 h3
          exact Wp.done (stop fun hg=>by
           rcases hg with hg | ⟨_,hg⟩
           ·
            exact absurd hg (by show ¬ _ < _; exact Int.not_lt.2 h1)
           ·
            exact absurd hg (Int.not_lt.2 h3))
        ·
         have h2:=niff_eqb.1 h2
         exact Wp.done (stop fun hg=>by
          rcases hg with hg | ⟨hg,_⟩
          ·
           exact absurd hg (Int.not_lt.2 h1)
          ·
           exact h2 hg)
      ·
       have hk0:=of_decide_eq_false hk0
       exact Wp.done (hj _ ⟨k,rfl,hk,g1,.inl (by omega)⟩)
     ·
      rw [a7S]
      show (i6 r.length).val.toNat < _
      rw [a0V (by omega)]
      omega
  ·
   have hc:=of_decide_eq_false hc
   refine Wp.done ?_
   rw [List.take_of_length_le (by omega)] at hp
   rw [e7S ha hp ho]
   rfl
 ·
  rw [a7S]
  show a.length - _ < _
  omega
end Sym

/- The laws of the queue of debts. -/
namespace Sym
open Go
end Sym

/- The laws of the queue of debts: complete, empty, any order of the list. -/
namespace Sym
open Go
theorem e3X:∀ (l:List Post) (k:Nat),(d0M k l).map (·.1) = l.filter ow
 | [],k=>rfl
 | p :: l,k=>by
  simp only [d0M,List.map_append,e3X l (k + 1),List.filter_cons]
  split <;> simp
theorem c3X (a:List Post):((d4D a).map (·.1)).Perm (a.filter ow):=by
 rw [← e3X a 0]
 exact (c4Y a).map _
end Sym

/- Tables of posters: which are valid, where one stands. -/
namespace Sym
open Go
abbrev Post.costs (p:Post):U:=p.2.2.1
abbrev Post.rewards (p:Post):U:=p.2.2.2.1
abbrev Post.paid (p:Post):U:=p.2.2.2.2.1
def b5A (p:Post):Prop:=(Post.addr p).val ≠ 0∧(Post.due p).val + (Post.paid p).val = (Post.costs p).val + (Post.rewards p).val∧((Post.since p).val = 0 ↔ (Post.due p).val = 0)
def TableOk (l:List Post):Prop:=l.length ≤ 64∧∀ i,i < l.length→b5A (rdL dP l i)∧(0 < i→(Post.addr (rdL dP l (i - 1))).val < (Post.addr (rdL dP l i)).val)
open Classical in
noncomputable def c4V (l:List Post):Bool:=decide (TableOk l)
open Classical in
theorem tabB_t {l:List Post}:c4V l = true ↔ TableOk l:=by unfold c4V; exact decide_eq_true_iff
open Classical in
theorem tabB_f {l:List Post}:c4V l = false ↔ ¬ TableOk l:=by unfold c4V; exact decide_eq_false_iff_not
theorem f9E (a:U):Ty.eqb (.arr 4 (.int .u64)) a Z_U = decide (a.val = 0):=by
 rw [e4Y]
 rw [show U.val Z_U = 0 from rfl]
theorem c8V (a:U):a2E K0 ((a,()),()) = some ((decide (a.val = 0),()),()):=by
 show some _ = _
 rw [show Ty.eqb (.arr 4 (.int .u64)) ((a,()),()).1.1 ((I.of .u64 0),((I.of .u64 0),((I.of .u64 0),((I.of .u64 0),())))) = decide (a.val = 0) from f9E a]
 rfl
theorem f5V (a b:Bool):Ty.eqb .bool a b = true ↔ a = b:=e9G .bool rfl a b
theorem d3V (p:Post):∃ y,a7H K0 ((p,()),()) = some y∧∃ b:Bool,y = ((b,()),())∧(b = true ↔ b5A p):=by
 obtain ⟨ad,due,costs,rewards,paid,since,⟨⟩⟩:=p
 refine Wp.out (T:=fun o=>∃ y,o = some y∧∃ b:Bool,y = ((b,()),())∧(b = true ↔ b5A (ad,due,costs,rewards,paid,since,()))) ?_
 unfold a7H
 have E:b5A (ad,due,costs,rewards,paid,since,()) ↔ (ad.val ≠ 0∧due.val + paid.val = costs.val + rewards.val∧(since.val = 0 ↔ due.val = 0)):=Iff.rfl
 have from_:∀ a:U,∃ y,a0C K0 ((a,()),()) = some y∧∃ r,y = ((r,()),())∧IsB r a.val:=fun a=>by
  obtain ⟨r,h1,h2⟩:=a1E a
  exact ⟨_,h1,r,rfl,h2⟩
 refine Wp.call (from_ due) ?_
 rintro _ ⟨d,rfl,hd⟩
 refine Wp.call (from_ paid) ?_
 rintro _ ⟨q,rfl,hq⟩
 obtain ⟨r1,g1,k1⟩:=b2F hd hq (c0Z hd) (c0Z hq)
 refine Wp.optF g1 ?_
 refine Wp.call (from_ costs) ?_
 rintro _ ⟨c,rfl,hc⟩
 refine Wp.call (from_ rewards) ?_
 rintro _ ⟨w,rfl,hw⟩
 obtain ⟨r2,g2,k2⟩:=b2F hc hw (c0Z hc) (c0Z hw)
 refine Wp.optF g2 ?_
 have t1:=due.lt
 have t2:=paid.lt
 have t3:=costs.lt
 have t4:=rewards.lt
 have hp:U.top + U.top ≤ 65536 ^ 17:=by decide
 refine Wp.brn (fun h=>?_) (fun h=>?_)
 ·
  have h:ad.val ≠ 0:=by have:=iff_neb.1 h; exact this
  refine Wp.optF (c4L k1 k2 (a9C k1 17 (by omega) (by decide)) (a9C k2 17 (by omega) (by decide))) ?_
  refine Wp.brn (fun h2=>?_) (fun h2=>?_)
  ·
   have h2:due.val + paid.val = costs.val + rewards.val:=by
    have h2:=iff_eqb.1 h2
    revert h2
    show (c3J _ _).val = (0:Int)→_
    unfold c3J
    split
    ·
     intro h; exact absurd h (by decide)
    ·
     split
     ·
      intro h; exact absurd h (by decide)
     ·
      intro _; omega
   refine Wp.optF (c8V due) ?_
   refine ⟨_,rfl,_,rfl,?_⟩
   rw [E]
   refine (f5V _ _).trans ?_
   constructor
   ·
    intro hb
    have hb:I.eqb since (I.of .u64 0) = decide (due.val = 0):=hb
    refine ⟨h,h2,?_⟩
    constructor
    ·
     intro h0
     have:I.eqb since (I.of .u64 0) = true:=iff_eqb.2 h0
     exact of_decide_eq_true (hb.symm.trans this)
    ·
     intro h0
     have:I.eqb since (I.of .u64 0) = true:=hb.trans (decide_eq_true h0)
     exact iff_eqb.1 this
   ·
    rintro ⟨_,_,h3⟩
    by_cases h0:due.val = 0
    ·
     exact (iff_eqb.2 (h3.2 h0)).trans (decide_eq_true h0).symm
    ·
     exact (niff_eqb.2 (fun e=>h0 (h3.1 e))).trans (decide_eq_false h0).symm
  ·
   have h2:due.val + paid.val ≠ costs.val + rewards.val:=by
    intro e
    refine (niff_eqb.1 h2) ?_
    show (c3J _ _).val = (0:Int)
    unfold c3J
    rw [if_neg (by omega),if_neg (by omega)]
    rfl
   exact ⟨_,rfl,false,rfl,by rw [E]; simp [h2]⟩
 ·
  have h:ad.val = 0:=niff_neb.1 h
  exact ⟨_,rfl,false,rfl,by rw [E]; simp [h]⟩
end Sym

/- Tables of posters: both programs' Valid and Find. -/
namespace Sym
open Go
def TabTo (l:List Post) (i:Nat):Prop:=∀ k,k < i→b5A (rdL dP l k)∧(0 < k→(Post.addr (rdL dP l (k - 1))).val < (Post.addr (rdL dP l k)).val)
theorem TabTo.succ {l:List Post} {i:Nat} (h:TabTo l i) (h1:b5A (rdL dP l i)) (h2:0 < i→(Post.addr (rdL dP l (i - 1))).val < (Post.addr (rdL dP l i)).val):TabTo l (i + 1):=by
 intro k hk
 rcases (by omega:k < i ∨ k = i) with h3 | rfl
 ·
  exact h k h3
 ·
  exact ⟨h1,h2⟩
theorem f1H {l:List Post} {i:Nat} (hi:i < l.length) (h:¬ (b5A (rdL dP l i)∧(0 < i→(Post.addr (rdL dP l (i - 1))).val < (Post.addr (rdL dP l i)).val))):c4V l = false:=tabB_f.2 fun ht=>h (ht.2 i hi)
theorem c1S {l:List Post} (hl:l.length ≤ 1073741824):a4A K0 ((l,()),()) = some ((c4V l,()),()):=by
 refine Wp.out (T:=fun o=>o = some ((c4V l,()),())) ?_
 unfold a4A
 simp only [b0T,a9B,c0I,b4N]
 refine Wp.brn (fun hc=>?_) (fun hc=>?_)
 ·
  have hc:=iff_ltb.1 hc
  rw [a0V (by omega),show (I.of .i64 64).val = 64 from rfl] at hc
  have:c4V l = false:=tabB_f.2 fun ht=>by have:=ht.1; omega
  rw [this]
  rfl
 ·
  have hc:=niff_ltb.1 hc
  rw [a0V (by omega),show (I.of .i64 64).val = 64 from rfl] at hc
  have h64:l.length ≤ 64:=by omega
  refine Wp.iter (fun s=>∃ i,s = ((l,(i6 i,())),())∧i ≤ l.length∧TabTo l i) (fun s=>l.length - s.1.2.1.val.toNat) ?_ ⟨0,rfl,by omega,fun k hk=>by omega⟩ ?_
  ·
   rintro s ⟨i,rfl,hi,ht⟩
   simp only [a3A (show i < 9223372036854775808 by omega) (show l.length < 9223372036854775808 by omega),a3A (show 0 < 9223372036854775808 by omega) (show i < 9223372036854775808 by omega),a3N (show i < 9223372036854775808 by omega),a4C (show i + 1 < 9223372036854775808 by omega)]
   refine Wp.brn (fun hc=>?_) (fun hc=>?_)
   ·
    have hc:=of_decide_eq_true hc
    have hm:l.length - (i6 (i + 1)).val.toNat < l.length - (i6 i).val.toNat:=by rw [a0V (by omega),a0V (by omega)]; omega
    have bi:inB (i6 i) l.length = true:=a3S (by omega) (by omega)
    refine Wp.brnT bi ?_
    refine Wp.call (d3V _) ?_
    rintro _ ⟨b,rfl,hb⟩
    refine Wp.brn (fun h=>?_) (fun h=>?_)
    ·
     have hbf:b = false:=by cases b with | false=>rfl | true=>exact absurd h (by decide)
     refine Wp.done ?_
     rw [f1H hc fun h2=>by have:=hb.2 h2.1; rw [hbf] at this; cases this]
     rfl
    ·
     have hbt:b = true:=by cases b with | true=>rfl | false=>exact absurd h (by decide)
     have hE:=hb.1 hbt
     refine Wp.brn (fun h0=>?_) (fun h0=>?_)
     ·
      have h0:=of_decide_eq_true h0
      simp only [c0A (show i < 9223372036854775808 by omega) (show 1 ≤ i by omega),a3N (show i - 1 < 9223372036854775808 by omega)]
      refine Wp.brnT bi (Wp.brnT (a3S (by omega) (by omega)) ?_)
      refine Wp.brn (fun hl=>?_) (fun hl=>?_)
      ·
       have hl:=iff_leb.1 hl
       refine Wp.done ?_
       rw [f1H hc fun h2=>by have:=h2.2 h0; exact absurd this (Int.not_lt.2 hl)]
       rfl
      ·
       have hl:=niff_leb.1 hl
       exact Wp.again ⟨i + 1,rfl,by omega,ht.succ hE fun _=>hl⟩ hm
     ·
      have h0:=of_decide_eq_false h0
      exact Wp.again ⟨i + 1,rfl,by omega,ht.succ hE fun h=>by omega⟩ hm
   ·
    have hc:=of_decide_eq_false hc
    refine Wp.done ?_
    rw [tabB_t.2 ⟨h64,fun k hk=>ht k (by omega)⟩]
    rfl
  ·
   rw [a7S]
   show l.length - _ < _
   omega
def atN (l:List Post) (a:I .u64):Nat:=l.findIdx fun p=>I.eqb (Post.addr p) a
def atI (l:List Post) (a:I .u64):I .i64:=if atN l a < l.length then i6 (atN l a) else I.of .i64 (-1)
theorem f9J {l:List Post} {a:I .u64} {i:Nat} (hi:i < l.length) (h1:I.eqb (Post.addr (rdL dP l i)) a = true) (h2:∀ k,k < i→I.eqb (Post.addr (rdL dP l k)) a = false):atN l a = i:=by
 unfold atN
 rw [List.findIdx_eq hi]
 refine ⟨by rw [← a3X dP l i hi]; exact h1,fun k hk=>?_⟩
 rw [← a3X dP l k (by omega)]
 exact h2 k hk
theorem f4X {l:List Post} {a:I .u64} (h2:∀ k,k < l.length→I.eqb (Post.addr (rdL dP l k)) a = false):atN l a = l.length:=by
 unfold atN
 rw [List.findIdx_eq_length]
 intro x hx
 obtain ⟨k,hk,rfl⟩:=b9H dP hx
 exact h2 k hk
theorem d0O {l:List Post} (a:I .u64) (hl:l.length ≤ 1073741824):a6O K0 ((l,(a,())),()) = some ((atI l a,()),()):=by
 refine Wp.out (T:=fun o=>o = some ((atI l a,()),())) ?_
 unfold a6O
 simp only [b0T,a9B,c0I,b4N]
 refine Wp.iter (fun s=>∃ i,s = ((l,(a,(i6 i,()))),())∧i ≤ l.length∧∀ k,k < i→I.eqb (Post.addr (rdL dP l k)) a = false) (fun s=>l.length - s.1.2.2.1.val.toNat) ?_ ⟨0,rfl,by omega,fun k hk=>by omega⟩ ?_
 ·
  rintro s ⟨i,rfl,hi,ht⟩
  simp only [a3A (show i < 9223372036854775808 by omega) (show l.length < 9223372036854775808 by omega),a3N (show i < 9223372036854775808 by omega),a4C (show i + 1 < 9223372036854775808 by omega)]
  refine Wp.brn (fun hc=>?_) (fun hc=>?_)
  ·
   have hc:=of_decide_eq_true hc
   refine Wp.brnT (a3S (by omega) (by omega)) ?_
   refine Wp.brn (fun h=>?_) (fun h=>?_)
   ·
    refine Wp.done ?_
    have e:=f9J hc h ht
    unfold atI
    rw [e,if_pos hc]
    rfl
   ·
    refine Wp.again ⟨i + 1,rfl,by omega,fun k hk=>?_⟩ (by show l.length - (i6 (i + 1)).val.toNat < l.length - (i6 i).val.toNat; rw [a0V (by omega),a0V (by omega)]; omega)
    rcases (by omega:k < i ∨ k = i) with h3 | rfl
    ·
     exact ht k h3
    ·
     exact h
  ·
   have hc:=of_decide_eq_false hc
   refine Wp.done ?_
   have e:=f4X fun k hk=>ht k (by omega)
   unfold atI
   rw [if_neg (by omega)]
   rfl
 ·
  rw [a7S]
  show l.length - _ < _
  omega
end Sym

/- Tables of posters: Settle, sums. -/
namespace Sym
open Go
theorem b2N (a:U):∃ y,a0C K0 ((a,()),()) = some y∧∃ r,y = ((r,()),())∧IsB r a.val:=by
 obtain ⟨r,h1,h2⟩:=a1E a
 exact ⟨_,h1,r,rfl,h2⟩
theorem c8O (a b:U):a7C K0 ((a,(b,())),()) = some (((c3R (a.val + b.val)).1,((c3R (a.val + b.val)).2,())),()):=by
 refine Wp.out (T:=fun o=>o = _) ?_
 unfold a7C
 refine Wp.call (b2N a) ?_
 rintro _ ⟨x,rfl,hx⟩
 refine Wp.call (b2N b) ?_
 rintro _ ⟨y,rfl,hy⟩
 obtain ⟨r,g,k⟩:=b2F hx hy (c0Z hx) (c0Z hy)
 refine Wp.optF g ?_
 have t1:=a.lt
 have t2:=b.lt
 have hp:U.top + U.top ≤ 65536 ^ 17:=by decide
 refine Wp.optF (Checked_ok' k (a9C k 17 (by omega) (by decide))) ?_
 rfl
theorem c1H (a b:U):a4X K0 ((a,(b,())),()) = some (((e9R a b).1,((e9R a b).2,())),()):=by
 refine Wp.out (T:=fun o=>o = _) ?_
 unfold a4X
 refine Wp.call (b2N a) ?_
 rintro _ ⟨x,rfl,hx⟩
 refine Wp.call (b2N b) ?_
 rintro _ ⟨y,rfl,hy⟩
 refine Wp.optF (c4L hx hy (c0Z hx) (c0Z hy)) ?_
 have hc:I.ltb (c3J a.val b.val) (I.of .i64 0) = decide (a.val < b.val):=by
  unfold c3J
  by_cases h:a.val < b.val
  ·
   rw [if_pos h,decide_eq_true h]; rfl
  ·
   rw [if_neg h,decide_eq_false h]
   split <;> rfl
 refine Wp.brn (fun h=>?_) (fun h=>?_)
 ·
  have h:a.val < b.val:=of_decide_eq_true (hc.symm.trans h)
  unfold e9R
  rw [if_neg (by omega)]
  rfl
 ·
  have h:¬ a.val < b.val:=of_decide_eq_false (hc.symm.trans h)
  obtain ⟨r,g,k⟩:=c7D hx hy (by omega) (c0Z hx)
  refine Wp.optF g ?_
  refine Wp.optF (a2Z k (by have:=a.lt; omega)) ?_
  unfold e9R
  rw [if_pos (by omega)]
  rfl
noncomputable def settled (p:Post) (n:U):Post :=
 (p.addr,(U.of (p.due.val - n.val),(p.costs,(p.rewards,(U.of (p.paid.val + n.val),((if p.due.val - n.val = 0 then I.of .u64 0 else p.since),()))))))
noncomputable def b2C (l:List Post) (a:I .u64) (n:U):List Post × I .i64 :=
 if c4V l = true then
  if atN l a < l.length then
   if n.val ≤ (Post.due (rdL dP l (atN l a))).val then
    if (Post.paid (rdL dP l (atN l a))).val + n.val < U.top then (setAt l (atN l a) (settled (rdL dP l (atN l a)) n),I.of .i64 0)
    else ([],I.of .i64 4)
   else ([],I.of .i64 10)
  else ([],I.of .i64 8)
 else ([],I.of .i64 2)
theorem d7N {l:List Post} {a:I .u64} (hl:l.length ≤ 1073741824):I.ltb (atI l a) (I.of .i64 0) = decide (¬ atN l a < l.length):=by
 unfold atI
 by_cases h:atN l a < l.length
 ·
  rw [if_pos h,decide_eq_false (by simpa using h)]
  exact niff_ltb.2 (by rw [a0V (by omega)]; show (0:Int) ≤ _; omega)
 ·
  rw [if_neg h,decide_eq_true h]
  rfl
theorem d1W {X:Type} (l:List X) (i:Nat) (v w:X):setAt (setAt l i v) i w = setAt l i w:=by simp [a6Q]
theorem e8T (l:List Post) (a:I .u64) (n:U) (hl:l.length ≤ 1073741824):b0S K0 ((l,(a,(n,()))),()) = some (((b2C l a n).1,((b2C l a n).2,())),()):=by
 refine Wp.out (T:=fun o=>o = _) ?_
 unfold b0S
 refine Wp.optF (c1S hl) ?_
 unfold b2C
 refine Wp.brn (fun h=>?_) (fun h=>?_)
 ·
  have h:c4V l = false:=by have:a5Q (c4V l) = true:=h; revert this; cases c4V l <;> simp [a5Q]
  rw [if_neg (by rw [h]; simp)]
  rfl
 ·
  have h:c4V l = true:=by have:a5Q (c4V l) = false:=h; revert this; cases c4V l <;> simp [a5Q]
  rw [if_pos h]
  refine Wp.optF (d0O a hl) ?_
  refine Wp.brn (fun h=>?_) (fun h=>?_)
  ·
   have h:=of_decide_eq_true ((d7N hl).symm.trans h)
   rw [if_neg h]
   rfl
  ·
   have h:=of_decide_eq_false ((d7N hl).symm.trans h)
   have h:atN l a < l.length:=by simpa using h
   rw [if_pos h]
   have e:atI l a = i6 (atN l a):=if_pos h
   have en:a2B ([]:List Post) l = l:=rfl
   simp only [e,a3N (show atN l a < 9223372036854775808 by omega),pw,d1W,b5D,en]
   have bi:inB (i6 (atN l a)) l.length = true:=a3S h (by omega)
   refine Wp.brnT (b0J hl) (Wp.brnT bi ?_)
   refine Wp.optF (c1H _ _) ?_
   simp only [true_and,h,if_true]
   generalize rdL dP l (atN l a) = p
   by_cases hd:n.val ≤ (Post.due p).val
   ·
    rw [if_pos hd]
    have es:e9R (Post.due p) n = (U.of ((Post.due p).val - n.val),I.of .i64 0):=if_pos hd
    rw [es]
    refine Wp.brnF rfl ?_
    refine Wp.optF (c8O _ _) ?_
    by_cases hp:(Post.paid p).val + n.val < U.top
    ·
     rw [if_pos hp]
     rw [c4A hp]
     refine Wp.brnF rfl ?_
     refine Wp.optF (c8V _) ?_
     have hv:(U.of ((Post.due p).val - n.val)).val = (Post.due p).val - n.val:=U.val_of (by have:=U.lt (Post.due p); omega)
     refine Wp.brn (fun hz=>?_) (fun hz=>?_)
     ·
      have hz:=of_decide_eq_true hz
      have hz:(Post.due p).val - n.val = 0:=hv.symm.trans hz
      unfold settled
      rw [if_pos hz]
      rfl
     ·
      have hz:=of_decide_eq_false hz
      have hz:¬ (Post.due p).val - n.val = 0:=fun e=>hz (hv.trans e)
      unfold settled
      rw [if_neg hz]
      rfl
    ·
     rw [if_neg hp]
     have e4:c3R ((Post.paid p).val + n.val) = (U.of 0,I.of .i64 4):=d7A (Nat.le_of_not_lt hp)
     rw [show c3R (U.val p.2.2.2.2.1 + n.val) = (U.of 0,I.of .i64 4) from e4]
     exact Wp.brnT rfl rfl
   ·
    rw [if_neg hd]
    have es:e9R (Post.due p) n = (U.of 0,I.of .i64 4):=if_neg hd
    rw [es]
    exact Wp.brnT rfl rfl
end Sym

/- Payments: sums, both programs' plans. -/
namespace Sym
open Go
abbrev Pay:Type:=a0D
noncomputable abbrev dY:Pay:=a1Y
def a9I (l:List Nat):Nat:=l.foldr (· + ·) 0
theorem e4X (l m:List Nat):a9I (l ++ m) = a9I l + a9I m:=by
 induction l with
 | nil=>simp [a9I]
 | cons x l ih=>simp only [a9I,List.cons_append,List.foldr_cons] at *; omega
theorem d8X {X:Type} (d:X) (f:X→Nat) {l:List X} {i:Nat} (h:i < l.length):a9I ((l.take (i + 1)).map f) = a9I ((l.take i).map f) + f (rdL d l i):=by
 rw [List.take_succ_eq_append_getElem h,List.map_append,e4X,← a3X d l i h]
 simp [a9I]
theorem g1Q {X:Type} (f:X→Nat) (l:List X) (i:Nat):a9I ((l.take i).map f) ≤ a9I (l.map f):=by
 have:a9I (l.map f) = a9I ((l.take i).map f) + a9I ((l.drop i).map f):=by
  rw [← e4X,← List.map_append,List.take_append_drop]
 omega
theorem c9B {X:Type} (f:X→Nat) (B:Nat) (hB:∀ x,f x < B):∀ l:List X,a9I (l.map f) ≤ l.length * B
 | []=>by simp [a9I]
 | x :: l=>by
  have:=c9B f B hB l
  have:=hB x
  simp only [a9I,List.map_cons,List.foldr_cons,List.length_cons,Nat.succ_mul] at *
  omega
def amt (q:Pay):Nat:=U.val q.2.1
theorem g6Y (q:Pay):amt q < U.top:=U.lt _
theorem f3V {l:List Pay} (hl:l.length ≤ 1073741824):b0V K0 ((l,()),()) = some (((c3R (a9I (l.map amt))).1,((c3R (a9I (l.map amt))).2,())),()):=by
 refine Wp.out (T:=fun o=>o = _) ?_
 unfold b0V
 simp only [b0T,a9B,c0I,b4N]
 have hb:∀ i,a9I ((l.take i).map amt) < 65536 ^ 19:=fun i=>by
  have h1:=g1Q amt l i
  have h2:=c9B amt U.top g6Y l
  have h3:l.length * U.top ≤ 1073741824 * U.top:=Nat.mul_le_mul_right _ hl
  have h4:1073741824 * U.top < 65536 ^ 19:=by decide
  omega
 refine Wp.iter (fun s=>∃ i r,s = ((l,(r,(i6 i,()))),(Z_U,()))∧i ≤ l.length∧IsB r (a9I ((l.take i).map amt))) (fun s=>l.length - s.1.2.2.1.val.toNat) ?_ ⟨0,[],rfl,by omega,d2U⟩ ?_
 ·
  rintro s ⟨i,r,rfl,hi,hr⟩
  simp only [a3A (show i < 9223372036854775808 by omega) (show l.length < 9223372036854775808 by omega),a3N (show i < 9223372036854775808 by omega),a4C (show i + 1 < 9223372036854775808 by omega)]
  refine Wp.brn (fun hc=>?_) (fun hc=>?_)
  ·
   have hc:=of_decide_eq_true hc
   refine Wp.brnT (a3S (by omega) (by omega)) ?_
   refine Wp.call (b2N _) ?_
   rintro _ ⟨x,rfl,hx⟩
   obtain ⟨z,g,k⟩:=b2F hr hx (a9C hr 19 (hb i) (by decide)) (c0Z hx)
   refine Wp.optF g ?_
   refine Wp.again ⟨i + 1,z,rfl,by omega,?_⟩ (by show l.length - (i6 (i + 1)).val.toNat < l.length - (i6 i).val.toNat; rw [a0V (by omega),a0V (by omega)]; omega)
   rw [d8X dY amt hc]
   exact k
  ·
   have hc:=of_decide_eq_false hc
   have hbl:=hb l.length
   rw [List.take_of_length_le (by omega)] at hr hbl
   refine Wp.done (Wp.optF (Checked_ok' hr (a9C hr 19 hbl (by decide))) ?_)
   rfl
 ·
  rw [a7S]
  show l.length - _ < _
  omega
def b8B (p:Post):Nat:=U.val p.due
noncomputable def b2T:List Post→Nat→List Pay
 | [],_=>[]
 | p :: r,n=>if n = 0 then [] else (p.addr,(U.of (min (b8B p) n),())) :: b2T r (n - min (b8B p) n)
theorem c8L (l:List Post):b2T l 0 = []:=by cases l <;> simp [b2T]
theorem e1K:∀ (l:List Post) (n:Nat),(b2T l n).length ≤ l.length
 | [],n=>Nat.le_refl _
 | p :: r,n=>by
  have:=e1K r (n - min (b8B p) n)
  simp only [b2T]
  split <;> simp <;> omega
noncomputable def f6L (l:List Post) (pool:U):List Pay × I .i64 :=
 if c4V l = true then (b2T ((d4D l).map (·.1)) pool.val,I.of .i64 0) else ([],I.of .i64 2)
theorem h2H {a:U}:a5Q (Ty.eqb (.arr 4 (.int .u64)) a Z_U) = decide (a.val ≠ 0):=by
 rw [f9E]
 by_cases h:a.val = 0 <;> simp [h,a5Q]
theorem e2P {a b:List Dg} {m n:Nat} (ha:IsB a m) (hb:IsB b n) (hal:a.length ≤ 1000000) (hbl:b.length ≤ 1000000):∃ y,a4J K0 ((a,(b,())),()) = some y∧∃ r,y = ((r,()),())∧IsB r (min m n):=by
 refine Wp.out (T:=fun o=>∃ y,o = some y∧∃ r,y = ((r,()),())∧IsB r (min m n)) ?_
 unfold a4J
 refine Wp.optF (c4L ha hb hal hbl) ?_
 have hc:I.ltb (I.of .i64 0) (c3J m n) = decide (n < m):=by
  unfold c3J
  by_cases h:m < n
  ·
   rw [if_pos h,decide_eq_false (by omega)]; rfl
  ·
   rw [if_neg h]
   by_cases h2:n < m
   ·
    rw [if_pos h2,decide_eq_true h2]; rfl
   ·
    rw [if_neg h2,decide_eq_false h2]; rfl
 refine Wp.brn (fun h=>?_) (fun h=>?_)
 ·
  have h:=of_decide_eq_true (hc.symm.trans h)
  exact ⟨_,rfl,b,rfl,by rw [Nat.min_eq_right (by omega)]; exact hb⟩
 ·
  have h:=of_decide_eq_false (hc.symm.trans h)
  exact ⟨_,rfl,a,rfl,by rw [Nat.min_eq_left (by omega)]; exact ha⟩
theorem f4L (l:List Post) (pool:U) (hl:l.length ≤ 1073741824):b3C K0 ((l,(pool,())),()) = some (((f6L l pool).1,((f6L l pool).2,())),()):=by
 refine Wp.out (T:=fun o=>o = _) ?_
 unfold b3C f6L
 refine Wp.optF (c1S hl) ?_
 refine Wp.brn (fun h=>?_) (fun h=>?_)
 ·
  have h:c4V l = false:=by have:a5Q (c4V l) = true:=h; revert this; cases c4V l <;> simp [a5Q]
  rw [if_neg (by rw [h]; simp)]
  rfl
 ·
  have h:c4V l = true:=by have:a5Q (c4V l) = false:=h; revert this; cases c4V l <;> simp [a5Q]
  rw [if_pos h]
  refine Wp.optF (f2J hl) ?_
  have hs:=d9G l
  obtain ⟨o,ho⟩:∃ o,o = (d4D l).map (·.1):=⟨_,rfl⟩
  have hol:o.length ≤ 1073741824:=by rw [ho,List.length_map]; omega
  rw [← ho]
  refine Wp.call (b2N pool) ?_
  rintro _ ⟨left0,rfl,hleft0⟩
  simp only [b0T,a9B,c0I,b4N]
  refine Wp.iter (fun s=>∃ i left n out,s = ((o,(left,(i6 i,()))),(out,()))∧i ≤ o.length∧IsB left n∧n < U.top∧out ++ b2T (o.drop i) n = b2T o pool.val∧out.length ≤ i) (fun s=>o.length - s.1.2.2.1.val.toNat) ?_ ⟨0,left0,pool.val,[],rfl,by omega,hleft0,pool.lt,rfl,by simp⟩ ?_
  ·
   rintro s ⟨i,left,n,out,rfl,hi,hleft,hn,hout,houtl⟩
   have hll:left.length ≤ 1000000:=a9C hleft 16 (by rw [← f0C]; exact hn) (by decide)
   simp only [a3A (show i < 9223372036854775808 by omega) (show o.length < 9223372036854775808 by omega),a3A (show 0 < 9223372036854775808 by omega) (show left.length < 9223372036854775808 by omega)]
   refine Wp.jn (fun s=>∃ z b,i < o.length∧n ≠ 0∧s = ((o,(left,(i6 i,(left,(z,(b,())))))),(out,()))) ?_ ?_
   ·
    rintro s ⟨z,b,hc,hn0,rfl⟩
    simp only [a3N (show i < 9223372036854775808 by omega),a4C (show i + 1 < 9223372036854775808 by omega)]
    have bi:inB (i6 i) o.length = true:=a3S (by omega) (by omega)
    refine Wp.brnT bi ?_
    refine Wp.call (b2N _) ?_
    rintro _ ⟨du,rfl,hdu⟩
    refine Wp.call (e2P hleft hdu hll (c0Z hdu)) ?_
    rintro _ ⟨mn,rfl,hmn⟩
    have hmin:min n (U.val (Post.due (rdL dP o i))) ≤ n:=Nat.min_le_left _ _
    refine Wp.brnT bi ?_
    refine Wp.optF (a2Z hmn (by show min n _ < _; omega)) ?_
    refine Wp.brnT (b0J (by show (out ++ [_]).length ≤ _; simp; omega)) ?_
    obtain ⟨z',g,k⟩:=c7D hleft hmn hmin hll
    refine Wp.optF g ?_
    refine Wp.again ⟨i + 1,z',n - min n (b8B (rdL dP o i)),_,rfl,by omega,k,by omega,?_,by show (out ++ [_]).length ≤ _; simp; omega⟩ (by show o.length - (i6 (i + 1)).val.toNat < o.length - (i6 i).val.toNat; rw [a0V (by omega),a0V (by omega)]; omega)
    rw [← hout,List.drop_eq_getElem_cons hc,← a3X dP o i hc]
    simp only [b2T,if_neg hn0,g0K,List.append_assoc,List.singleton_append]
    rw [Nat.min_comm (b8B (rdL dP o i)) n]
    rfl
   ·
    intro j hj
    refine Wp.brn (fun hc=>?_) (fun hc=>?_)
    ·
     have hc:=of_decide_eq_true hc
     refine Wp.brn (fun hz=>?_) (fun hz=>?_)
     ·
      have hz:=of_decide_eq_true hz
      refine hj _ ⟨_,_,hc,?_,rfl⟩
      intro e
      subst e
      have:=(hleft.len (k:=0)).2 (by decide)
      omega
     ·
      have hz:=of_decide_eq_false hz
      have:n = 0:=by
       have:=(hleft.len (k:=0)).1 (by omega)
       simpa using this
      subst this
      rw [c8L,List.append_nil] at hout
      refine Wp.done ?_
      rw [← hout]
      rfl
    ·
     have hc:=of_decide_eq_false hc
     rw [List.drop_eq_nil_iff.2 (by omega)] at hout
     refine Wp.done ?_
     rw [← hout]
     simp [b2T]
     rfl
  ·
   rw [a7S]
   show o.length - _ < _
   omega
end Sym

/- Tables of posters: what is generated is well formed. -/
namespace Sym
open Go
theorem TableOk.lt {l:List Post} (h:TableOk l):∀ j,j < l.length→∀ i,i < j→(Post.addr (rdL dP l i)).val < (Post.addr (rdL dP l j)).val:=by
 intro j
 induction j with
 | zero=>intro _ i hi; omega
 | succ j ih =>
  intro hj i hi
  have h1:=(h.2 (j + 1) hj).2 (by omega)
  rw [Nat.add_sub_cancel] at h1
  rcases (by omega:i < j ∨ i = j) with h2 | rfl
  ·
   have:=ih (by omega) i h2
   omega
  ·
   exact h1
theorem table_iff {l:List Post}:TableOk l ↔ l.length ≤ 64∧(∀ p ∈ l,b5A p)∧l.Pairwise fun p q=>(Post.addr p).val < (Post.addr q).val:=by
 constructor
 ·
  intro h
  refine ⟨h.1,fun p hp=>?_,List.pairwise_iff_getElem.2 fun i j hi hj hij=>?_⟩
  ·
   obtain ⟨k,hk,rfl⟩:=b9H dP hp
   exact (h.2 k hk).1
  ·
   rw [← a3X dP l i hi,← a3X dP l j hj]
   exact h.lt j hj i hij
 ·
  rintro ⟨h1,h2,h3⟩
  refine ⟨h1,fun i hi=>⟨h2 _ (b7E dP l i hi),fun h0=>?_⟩⟩
  have:=List.pairwise_iff_getElem.1 h3 (i - 1) i (by omega) hi (by omega)
  rw [a3X dP l i hi,a3X dP l (i - 1) (by omega)]
  exact this
theorem f8V {l:List Post} (h:TableOk l) {k:Nat} (hk:k < l.length) {v:Post} (hv:b5A v) (ha:Post.addr v = Post.addr (rdL dP l k)):TableOk (setAt l k v):=by
 have hlen:(setAt l k v).length = l.length:=by rw [a6Q,List.length_set]
 have haddr:∀ i,Post.addr (rdL dP (setAt l k v) i) = Post.addr (rdL dP l i):=by
  intro i
  rw [b5D]
  split
  ·
   rename_i e
   rw [ha,e.1]
  ·
   rfl
 refine ⟨by rw [hlen]; exact h.1,fun i hi=>?_⟩
 rw [hlen] at hi
 rw [haddr,haddr]
 refine ⟨?_,(h.2 i hi).2⟩
 rw [b5D]
 split
 ·
  exact hv
 ·
  exact (h.2 i hi).1
theorem e6Y {p:Post} {n:U} (h:b5A p) (h1:n.val ≤ (Post.due p).val) (h2:(Post.paid p).val + n.val < U.top):b5A (settled p n):=by
 obtain ⟨ha,hb,hc⟩:=h
 have hd:=U.lt (Post.due p)
 refine ⟨ha,?_,?_⟩
 ·
  show (U.of ((Post.due p).val - n.val)).val + (U.of ((Post.paid p).val + n.val)).val = _
  rw [U.val_of (by omega),U.val_of h2]
  show _ = (Post.costs p).val + (Post.rewards p).val
  omega
 ·
  show (if (Post.due p).val - n.val = 0 then I.of .u64 0 else Post.since p).val = 0 ↔ (U.of ((Post.due p).val - n.val)).val = 0
  rw [U.val_of (by omega)]
  split
  ·
   rename_i e
   rw [e]
   exact ⟨fun _=>rfl,fun _=>rfl⟩
  ·
   rename_i e
   rw [hc]
   omega
theorem f3U {l:List Post} (h:TableOk l):a5Q (c4V l) = false:=by rw [tabB_t.2 h]; rfl
theorem g2Z {a:I .u64} (ha:a.val ≠ 0):b5A (a,(Z_U,(Z_U,(Z_U,(Z_U,((I.of .u64 0),())))))):=⟨ha,rfl,⟨fun _=>rfl,fun _=>rfl⟩⟩
theorem e4I {l:List Post} {a:I .u64} (h:¬ atN l a < l.length):∀ k,k < l.length→(Post.addr (rdL dP l k)).val ≠ a.val:=by
 intro k hk e
 have h1:atN l a ≤ l.length:=List.findIdx_le_length
 have h2:atN l a = l.length:=by omega
 unfold atN at h2
 rw [List.findIdx_eq_length] at h2
 have:=h2 _ (b7E dP l k hk)
 exact absurd (iff_eqb.2 e) (by rw [this]; simp)
end Sym

/- Tables of posters: what is generated is well formed: Accrue, the calls. -/
namespace Sym
open Go
theorem e7V {p:Post} (h:b5A p) (c w:U) (s:I .u64) (hs:s.val ≠ 0) (h1:(Post.due p).val + (c.val + w.val) < U.top) (h2:(Post.costs p).val + c.val < U.top) (h3:(Post.rewards p).val + w.val < U.top) (s':I .u64)
  (hs':(s' = s∧(Post.due p).val = 0∧0 < (Post.due p).val + (c.val + w.val)) ∨ (s' = Post.since p∧¬ ((Post.due p).val = 0∧0 < (Post.due p).val + (c.val + w.val)))) :
  b5A (p.1,(U.of ((Post.due p).val + (c.val + w.val)),(U.of ((Post.costs p).val + c.val),(U.of ((Post.rewards p).val + w.val),(p.2.2.2.2.1,(s',())))))):=by
 obtain ⟨ha,hb,hc⟩:=h
 refine ⟨ha,?_,?_⟩
 ·
  show (U.of _).val + (Post.paid p).val = (U.of _).val + (U.of _).val
  rw [U.val_of h1,U.val_of h2,U.val_of h3]
  omega
 ·
  show s'.val = 0 ↔ (U.of _).val = 0
  rw [U.val_of h1]
  rcases hs' with ⟨rfl,e1,e2⟩ | ⟨rfl,e⟩
  ·
   constructor
   ·
    intro e; exact absurd e hs
   ·
    intro e; omega
  ·
   rw [hc]
   omega
theorem d9Z {l:List Dg} {n:Nat} (hl:IsB l n) (hlen:l.length ≤ 1000000):a2C K0 ((l,()),()) = some ((decide (n < U.top),()),()):=c2Q hl (by omega)
theorem f3O {l:List Dg} {n:Nat} (h:IsB l n):0 < l.length ↔ 0 < n:=by
 have:=h.len (k:=0)
 simp only [Nat.pow_zero] at this
 omega
theorem g0U {l:List Dg} {n:Nat} (h:IsB l n) (hl:l.length ≤ 1000000):I.ltb (I.of .i64 0) (I.ofNat .i64 (a0I l)) = decide (0 < n):=by
 rw [c0I,a9B,b0T,a3A (by omega) (by omega)]
 by_cases hx:0 < n
 ·
  rw [decide_eq_true hx,decide_eq_true ((f3O h).2 hx)]
 ·
  rw [decide_eq_false hx,decide_eq_false (fun h'=>hx ((f3O h).1 h'))]
end Sym
