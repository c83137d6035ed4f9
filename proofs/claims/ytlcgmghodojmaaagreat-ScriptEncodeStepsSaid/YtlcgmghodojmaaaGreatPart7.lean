/- Hashes and trees of the reference: they end, continued. -/
import Derived.Carry
import Derived.SizedLaws
import Derived.ChangeOld
import Derived.OpenShut
import Derived.Test.YtlcgmghodojmaaaGreatRows
import Derived.WalkKit
import Derived.ProofKit
import Derived.Test.YtlcgmghodojmaaaGreatPart6
import Derived.Test.YtlcgmghodojmaaaGreatPart4
import Derived.Test.YtlcgmghodojmaaaGreatPart5
import Derived.Test.YtlcgmghodojmaaaGreatPart3
namespace Sym
open Go
abbrev By:Type:=List (I .u8)
theorem e9F:(f7C).length=1:=rfl
theorem d0S:(e1V).length=1:=rfl
theorem a9E {X:Type} (a b:List X):(a2C a b).length=a.length+b.length:=List.length_append
theorem b4Q {X:Type} (a b:List X) (h:a.length+b.length≤1073741824):a1D (a0K (a2C a b))=true:=b3P (by show (a2C a b).length≤_; rw [a9E]; exact h)
theorem i6_neb' {n m:Nat} (hn:n<9223372036854775808) (hm:m<9223372036854775808):I.neb (i6 n) (i6 m)=decide (n≠m):=by
 simp only [I.neb,a0Q hn,a0Q hm]
 by_cases h:n=m
 ·
  subst h; simp
 ·
  simp [h]; omega
theorem f8J {n m:Nat} (hn:n<9223372036854775808) (hm:0<m) (hm2:m<9223372036854775808):I.rem (i6 n) (i6 m)=i6 (n%m):=by
 apply I.ext'
 rw [b9N (by rw [a0Q hn]; omega) (by rw [a0Q hm2]; omega),a0Q hn,a0Q hm2,a0Q (Nat.lt_of_lt_of_le (Nat.mod_lt _ hm) (by omega))]
 omega
theorem e8X {n m:Nat} (hn:n<9223372036854775808) (hm:0<m) (hm2:m<9223372036854775808):I.quo (i6 n) (i6 m)=i6 (n / m):=by
 apply I.ext'
 rw [c1Q (by rw [a0Q hn]; omega) (by rw [a0Q hm2]; omega),a0Q hn,a0Q hm2,a0Q (Nat.lt_of_le_of_lt (Nat.div_le_self _ _) hn)]
 omega
theorem e0X (a:By) (ha:a.length≤1073741000):Tot (b0Q K0 ((a,()),())):=by
 refine Wp.out (T:=fun o=>Tot o) ?_
 unfold b0Q
 refine Wp.brnT (b4Q _ _ (by show 0+a.length≤_; omega)) (Wp.brnT (b4Q _ _ (by rw [a9E,e9F]; show 0+a.length+1≤_; omega)) ?_)
 refine Wp.iter (fun x=>x.1.1=a∧List.length x.2.2.1+(120-List.length x.2.2.1%64)%64≤a.length+64) (fun x=>(120-List.length x.2.2.1%64)%64) ?_ ⟨rfl,?_⟩ (by rw [a6Z]; exact Nat.lt_of_lt_of_le (Nat.mod_lt _ (by decide)) (by decide))
 case refine_2 =>
  show (a2C (a2C [] a) f7C).length+(120-(a2C (a2C [] a) f7C).length%64)%64≤a.length+64
  rw [a9E,a9E,e9F]
  show 0+a.length+1+_≤_
  omega
 rintro ⟨⟨a',⟨⟩⟩,u,l,⟨⟩⟩ ⟨e,hl⟩
 simp only at e hl
 subst e
 have hl0:l.length≤1073741064:=by omega
 simp only [a8H,a5Y,show (I.of .i64 64)=i6 64 from rfl,show (I.of .i64 56)=i6 56 from rfl,f8J (show l.length<9223372036854775808 by omega) (show 0<64 by omega) (by omega),i6_neb' (show l.length%64<9223372036854775808 by omega) (show 56<9223372036854775808 by omega)]
 refine Wp.brn (fun hc=>?_) (fun hc=>?_)
 ·
  have hc:=of_decide_eq_true hc
  refine Wp.brnT (b4Q _ _ (by rw [d0S]; omega)) ?_
  refine Wp.again ⟨rfl,?_⟩ ?_
  ·
   show (a2C l e1V).length+(120-(a2C l e1V).length%64)%64≤a'.length+64
   rw [a9E,d0S]
   omega
  ·
   show (120-(a2C l e1V).length%64)%64<(120-l.length%64)%64
   rw [a9E,d0S]
   omega
 ·
  have hc:l.length%64=56:=by have:=of_decide_eq_false hc; omega
  refine Wp.done ?_
  refine Wp.iter (fun x=>∃ j:Nat,j≤8∧x.1.2.1.val=7-(j:Int)∧List.length x.2.2.1=l.length+j) (fun x=>(x.1.2.1.val+1).toNat) ?_ ⟨0,by omega,rfl,rfl⟩ (by rw [a6Z]; show ((I.of .i64 7).val+1).toNat<_; decide)
  rintro ⟨⟨n,i,⟨⟩⟩,u,l2,⟨⟩⟩ ⟨j,hj,hi,hl2⟩
  simp only at hi hl2
  have c8:(I.of .i64 8).val=8:=rfl
  refine Wp.brn (fun hc=>?_) (fun hc=>?_)
  ·
   have hc:0≤i.val:=iff_leb.1 hc
   refine Wp.brnT (c4P _) (Wp.brnT (b4Q _ _ (by show l2.length+1≤_; omega)) ?_)
   have hs:(I.sub i (I.of .i64 1)).val=i.val-1:=by rw [a8Q (by rw [show (I.of .i64 1).val=1 from rfl]; omega)]; rfl
   refine Wp.again ⟨j+1,by omega,by show (I.sub i (I.of .i64 1)).val=_; rw [hs]; omega,?_⟩ ?_
   ·
    show (a2C l2 [_]).length=_
    rw [a9E,hl2]
    rfl
   ·
    show ((I.sub i (I.of .i64 1)).val+1).toNat<(i.val+1).toNat
    rw [hs]; omega
  ·
   have hc:i.val<0:=niff_leb.1 hc
   have hj8:j=8:=by omega
   subst hj8
   obtain ⟨m,hm⟩:∃ m,l2.length=64*m:=⟨l2.length / 64,by omega⟩
   refine Wp.done ?_
   refine Wp.iter (fun x=>∃ q,q≤m∧x.1.1=i6 (64*q)∧x.2.2.1=l2) (fun x=>64*m-x.1.1.val.toNat) ?_ ⟨0,by omega,rfl,rfl⟩ (by rw [a6Z]; show 64*m-0<_; omega)
   rintro ⟨⟨i2,⟨⟩⟩,u,l3,y,⟨⟩⟩ ⟨q,hq,e1,e2⟩
   simp only at e1 e2
   subst e1 e2
   have hadd:I.add (i6 (64*q)) (i6 64)=i6 (64*q+64):=a2K (m:=64) (by omega)
   simp only [hm,hadd,a2L (show 64*q<9223372036854775808 by omega) (show 64*m<9223372036854775808 by omega),a3J (show 64*q<9223372036854775808 by omega),a3J (show 64*q+64<9223372036854775808 by omega)]
   refine Wp.brn (fun hc=>?_) (fun hc=>?_)
   ·
    have hc:=of_decide_eq_true hc
    refine Wp.brnT (i6_inB' (by omega) (by omega)) (Wp.brnT (i6_inB' (by omega) (by omega)) ?_)
    have hb64:(a3T l3 (64*q) (64*q+64-64*q)).length=64:=by rw [c0P,hm]; omega
    refine Wp.tot (f8P y _ hb64) fun y3=>?_
    refine Wp.again ⟨q+1,by omega,?_,rfl⟩ ?_
    ·
     show i6 (64*q+64)=i6 (64*(q+1))
     rw [show 64*(q+1)=64*q+64 by omega]
    ·
     show 64*m-(i6 (64*q+64)).val.toNat<64*m-(i6 (64*q)).val.toNat
     rw [a0Q (by omega),a0Q (by omega)]; omega
   ·
    refine Wp.done ?_
    refine Wp.iter (fun x=>∃ i,i≤32∧x.1.1=i6 i) (fun x=>32-x.1.1.val.toNat) ?_ ⟨0,by omega,rfl⟩ (by rw [a6Z]; show 32-0<_; decide)
    rintro ⟨⟨i3,⟨⟩⟩,x3⟩ ⟨k,hk,e2⟩
    simp only at e2
    subst e2
    simp only [show (I.of .i64 4)=i6 4 from rfl,show (I.of .i64 32)=i6 32 from rfl,e8X (show k<9223372036854775808 by omega) (show 0<4 by omega) (by omega),a2L (show k<9223372036854775808 by omega) (show 32<9223372036854775808 by omega)]
    refine Wp.brn (fun hc=>?_) (fun hc=>Wp.done ⟨_,rfl⟩)
    have hc:=of_decide_eq_true hc
    refine Wp.brnT (a3H (by omega) (by omega)) (Wp.brnT (c4P _) (Wp.brnT (a3H hc (by omega)) ?_))
    have hn:I.add (i6 k) (I.of .i64 1)=i6 (k+1):=a2K (m:=1) (by omega)
    refine Wp.again ⟨k+1,by omega,hn⟩ ?_
    show 32-(I.add (i6 k) (I.of .i64 1)).val.toNat<32-(i6 k).val.toNat
    rw [hn,a0Q (by omega),a0Q (by omega)]; omega
theorem f8F (a:By) (ha:a.length≤1073740999):Tot (b5J K0 ((a,()),())):=by
 refine Wp.out (T:=fun o=>Tot o) ?_
 unfold b5J
 refine Wp.brnT (b4Q _ _ (by rw [d0S]; show 1+a.length≤_; omega)) (Wp.tot (e0X (a2C e1V a) (by rw [a9E,d0S]; omega)) fun y=>⟨_,rfl⟩)
theorem g4B (a:Hs):(a3T (Arr.list 32 a) 0 32).length=32:=by
 rw [c0P]
 rfl
theorem e1E (a b:Hs):Tot (a9T K0 ((a,(b,())),())):=by
 refine Wp.out (T:=fun o=>Tot o) ?_
 unfold a9T
 have ha:=g4B a
 have hb:=g4B b
 have h1:(a2C f5A (a3T (Arr.list 32 a) 0 32)).length=33:=by rw [a9E,ha]; rfl
 refine Wp.brnT (b4Q _ _ (by rw [ha]; decide)) (Wp.brnT (b4Q _ _ (by rw [h1,hb]; decide)) (Wp.tot (e0X _ (by rw [a9E,h1,hb]; decide)) fun y=>⟨_,rfl⟩))
end Sym

/- What the wire's functions write, both programs'. -/
namespace Sym
open Go
theorem g4M {n m:Nat} (h:n*m<9223372036854775808) (hn:n<9223372036854775808) (hm:m<9223372036854775808):I.mul (i6 n) (i6 m)=i6 (n*m):=by
 apply I.ext'
 rw [c3M (by rw [a0Q hn,a0Q hm,← Int.natCast_mul]; omega),a0Q hn,a0Q hm,a0Q h,Int.natCast_mul]
theorem g7I (a:U) (q:Nat) (hq:q<4):(Arr.sel (I.of .u64 0) 4 a q).nat=a.val / 18446744073709551616^q%18446744073709551616:=by
 obtain ⟨z0,z1,z2,z3,⟨⟩⟩:=a
 have:=a3A z0
 have:=a3A z1
 have:=a3A z2
 have:=a3A z3
 match q,hq with
 | 0,_=>show z0.nat=_; simp only [U.val,Nat.reducePow]; omega
 | 1,_=>show z1.nat=_; simp only [U.val,Nat.reducePow]; omega
 | 2,_=>show z2.nat=_; simp only [U.val,Nat.reducePow]; omega
 | 3,_=>show z3.nat=_; simp only [U.val,Nat.reducePow]; omega
theorem p64 (q:Nat):(18446744073709551616:Nat)^q=256^(8*q):=by rw [Nat.pow_mul]
theorem g4K (a:U) (i:Nat) (hi:i<32) {l:IntKind} (s:I l) (hs:s.val=((8*(i%8):Nat):Int)) :
  I.conv (k:=.u64) .u8 (I.shr (Arr.sel (I.of .u64 0) 4 a (i / 8)) s)=I.of .u8 ((a.val / 256^i:Nat):Int):=by
 apply h2K
 have h1:=d4E (Arr.sel (I.of .u64 0) 4 a (i / 8)) s (by omega) (by omega)
 have h2:=a2G (I.shr (Arr.sel (I.of .u64 0) 4 a (i / 8)) s)
 show I.nat (I.of .u8 (I.shr (Arr.sel (I.of .u64 0) 4 a (i / 8)) s).val)=_
 have hsn:s.val.toNat=8*(i%8):=by omega
 rw [← h2,g3G,g3G,h1,g7I a (i / 8) (by omega),hsn,p64,← h0W]
 have e:(18446744073709551616:Nat)=256^(i%8)*256^(8-i%8):=by
  rw [← Nat.pow_add,show i%8+(8-i%8)=8 by omega]
 rw [e,Nat.mod_mul_right_div_self,Nat.div_div_eq_div_mul,← Nat.pow_add,show 8*(i / 8)+i%8=i by omega]
 exact Nat.mod_mod_of_dvd _ ⟨256^(7-i%8),by rw [← Nat.pow_succ',show 8-i%8=(7-i%8)+1 by omega]⟩
theorem g1M {v k:Nat} (h:Bits v k):(k+7) / 8=nby v:=by
 have h1:v<256^((k+7) / 8):=by rw [h0W]; exact (h _).1 (by omega)
 have h2:=c7N h1
 have h3:=g3M v
 rw [h0W] at h3
 have:=(h _).2 h3
 omega
theorem g6M (a:U):nby a.val≤32:=c7N (U.lt a)
theorem f5K (n:U):c2A K0 ((n,()),())=some ((b5Z n.val,()),()):=by
 refine Wp.out (T:=fun o=>o=some ((b5Z n.val,()),())) ?_
 unfold c2A
 obtain ⟨y,hy,k,rfl,hB,hk⟩:=f6O n
 refine Wp.optF hy ?_
 have h32:=g6M n
 have hnb:=g1M hB
 have e7:I.of .i64 7=i6 7:=rfl
 have e8:I.of .i64 8=i6 8:=rfl
 have e1:(I.of .i64 1).val=1:=rfl
 simp only [e7,e8,a2K (show k+7<9223372036854775808 by omega),e8X (show k+7<9223372036854775808 by omega) (show 0<8 by omega) (by omega),hnb]
 have hs:(I.sub (i6 (nby n.val)) (I.of .i64 1)).val=(nby n.val:Int)-1:=by rw [a8Q (by rw [e1,a0Q (by omega)]; omega),a0Q (by omega)]; rfl
 refine Wp.iter (fun x=>∃ j:Nat,j≤32∧x.1.1.val=(j:Int)-1∧x.2.1=n∧x.2.2.1++be j n.val=b5Z n.val) (fun x=>(x.1.1.val+1).toNat) ?_ ⟨nby n.val,h32,hs,rfl,?_⟩
  (by rw [a6Z]; show ((I.sub (i6 (nby n.val)) (I.of .i64 1)).val+1).toNat<_; rw [hs]; omega)
 case refine_2 =>
  show I.of .u8 (i6 (nby n.val)).val::be (nby n.val) n.val=_
  rw [a0Q (by omega)]
  rfl
 rintro ⟨⟨i,⟨⟩⟩,m,l,⟨⟩⟩ ⟨j,hj,hi,hm,hl⟩
 simp only at hi hm hl
 subst hm
 have hll:l.length+j=nby m.val+1:=by have:=congrArg List.length hl; rwa [List.length_append,d6J,d0I] at this
 refine Wp.brn (fun hc=>?_) (fun hc=>?_)
 ·
  have hc:0≤i.val:=iff_leb.1 hc
  obtain ⟨q,rfl⟩:∃ q,j=q+1:=⟨j-1,by omega⟩
  have hiq:i=i6 q:=I.ext' (by rw [a0Q (by omega)]; omega)
  subst hiq
  have hq8:8*(q%8)<9223372036854775808:=by omega
  simp only [e8X (show q<9223372036854775808 by omega) (show 0<8 by omega) (by omega),f8J (show q<9223372036854775808 by omega) (show 0<8 by omega) (by omega),g4M hq8 (by omega) (by omega),a3J (show q / 8<9223372036854775808 by omega)]
  refine Wp.brnT (a3H (by omega) (by omega)) (Wp.brnT (iff_nn.2 (by rw [a0Q hq8]; omega)) (Wp.brnT (b4Q _ _ (by show l.length+1≤_; omega)) (Wp.again ⟨q,by omega,?_,rfl,?_⟩ ?_)))
  ·
   show (I.sub (i6 q) (I.of .i64 1)).val=_
   rw [a8Q (by rw [e1,a0Q (by omega)]; omega),a0Q (by omega)]; rfl
  ·
   show (l++[I.conv (k:=.u64) .u8 (I.shr (Arr.sel (I.of .u64 0) 4 m (q / 8)) (i6 (8*(q%8))))])++be q m.val=_
   rw [g4K m q (by omega) _ (a0Q hq8),List.append_assoc]
   exact hl
  ·
   show ((I.sub (i6 q) (I.of .i64 1)).val+1).toNat<((i6 q).val+1).toNat
   rw [a8Q (by rw [e1,a0Q (by omega)]; omega),a0Q (by omega),e1]; omega
 ·
  have hc:i.val<0:=niff_leb.1 hc
  have hj0:j=0:=by omega
  subst hj0
  refine Wp.done ?_
  show some ((l,()),())=some ((b5Z m.val,()),())
  rw [← hl]
  show _=some ((l++[],()),())
  rw [List.append_nil]
theorem f4E (n:U):a6F K0 ((n,()),())=some ((be (nby n.val) n.val,()),()):=by
 refine Wp.out (T:=fun o=>o=some ((be (nby n.val) n.val,()),())) ?_
 unfold a6F
 have h32:=g6M n
 have e8:I.of .i64 8=i6 8:=rfl
 have e0:I.of .i64 0=i6 0:=rfl
 have e1:(I.of .i64 1).val=1:=rfl
 refine Wp.iter (fun x=>∃ j:Nat,j≤32∧x.1.1.val=(j:Int)-1∧x.2.1=n∧((x.2.2.1=[]∧n.val<256^j)∨(x.2.2.1≠[]∧x.2.2.1++be j n.val=be (nby n.val) n.val))) (fun x=>(x.1.1.val+1).toNat) ?_ ⟨32,Nat.le_refl _,rfl,rfl,.inl ⟨rfl,U.lt n⟩⟩
  (by rw [a6Z]; show ((I.of .i64 31).val+1).toNat<_; decide)
 rintro ⟨⟨i,⟨⟩⟩,m,l,⟨⟩⟩ ⟨j,hj,hi,hm,hl⟩
 simp only at hi hm hl
 subst hm
 have hll:l.length≤32:=by
  rcases hl with ⟨rfl,_⟩ | ⟨_,hl⟩
  ·
   exact Nat.zero_le _
  ·
   have:=congrArg List.length hl; rw [List.length_append,d6J,d6J] at this; omega
 refine Wp.brn (fun hc=>?_) (fun hc=>?_)
 ·
  have hc:0≤i.val:=iff_leb.1 hc
  obtain ⟨q,rfl⟩:∃ q,j=q+1:=⟨j-1,by omega⟩
  have hiq:i=i6 q:=I.ext' (by rw [a0Q (by omega)]; omega)
  subst hiq
  have hq8:8*(q%8)<9223372036854775808:=by omega
  have hcv:(I.conv (k:=.i64) .u64 (i6 (8*(q%8)))).val=((8*(q%8):Nat):Int):=by
   show (I.of .u64 (i6 (8*(q%8))).val).val=_
   rw [a0Q hq8,b8W (by omega)]
  simp only [e8,e8X (show q<9223372036854775808 by omega) (show 0<8 by omega) (by omega),f8J (show q<9223372036854775808 by omega) (show 0<8 by omega) (by omega),g4M hq8 (by omega) (by omega),a3J (show q / 8<9223372036854775808 by omega),g4K m q (by omega) _ hcv,a8H,a5Y,e0,a2L (show 0<9223372036854775808 by omega) (show l.length<9223372036854775808 by omega)]
  have hsub:(I.sub (i6 q) (I.of .i64 1)).val=(q:Int)-1:=by rw [a8Q (by rw [e1,a0Q (by omega)]; omega),a0Q (by omega)]; rfl
  have hμ:((I.sub (i6 q) (I.of .i64 1)).val+1).toNat<((i6 q).val+1).toNat:=by rw [hsub,a0Q (by omega)]; omega
  have hp:0<256^q:=Nat.pow_pos (by decide)
  refine Wp.brnT (a3H (by omega) (by omega)) (Wp.brnT (c4P _) (Wp.brn (fun h0=>?_) (fun h0=>?_)))
  ·
   have h0:=of_decide_eq_true h0
   refine Wp.brnT (b4Q _ _ (by show l.length+1≤_; omega)) (Wp.again ⟨q,by omega,hsub,rfl,.inr ⟨by simp,?_⟩⟩ hμ)
   rcases hl with ⟨rfl,_⟩ | ⟨_,hl⟩
   ·
    exact absurd h0 (by decide)
   ·
    show (l++[_])++be q m.val=_
    rw [List.append_assoc]
    exact hl
  ·
   have h0:=of_decide_eq_false h0
   have hln:l=[]:=List.eq_nil_of_length_eq_zero (by omega)
   subst hln
   rcases hl with ⟨_,hl⟩ | ⟨hl,_⟩
   case inr=>exact absurd rfl hl
   have hd:m.val / 256^q<256:=Nat.div_lt_of_lt_mul (by rw [Nat.pow_succ] at hl; exact hl)
   have hbv:(I.of .u8 ((m.val / 256^q:Nat):Int)).val=((m.val / 256^q:Nat):Int):=g5I ⟨Int.natCast_nonneg _,Int.ofNat_lt.2 hd⟩
   refine Wp.brn (fun h1=>?_) (fun h1=>?_)
   ·
    have h1:(0:Int)<(I.of .u8 ((m.val / 256^q:Nat):Int)).val:=iff_ltb.1 h1
    rw [hbv] at h1
    refine Wp.brnT (b4Q _ _ (by show 0+1≤_; omega)) (Wp.again ⟨q,by omega,hsub,rfl,.inr ⟨by simp,?_⟩⟩ hμ)
    have hnb:nby m.val=q+1:=h0Y (by
     have:=Nat.div_mul_le_self m.val (256^q)
     have:1*256^q≤m.val / 256^q*256^q:=Nat.mul_le_mul_right _ (by omega)
     omega) hl
    rw [hnb]
    rfl
   ·
    have h1:(I.of .u8 ((m.val / 256^q:Nat):Int)).val≤0:=niff_ltb.1 h1
    rw [hbv] at h1
    refine Wp.again ⟨q,by omega,hsub,rfl,.inl ⟨rfl,?_⟩⟩ hμ
    have h2:m.val / 256^q=0:=Nat.le_zero.1 (Int.ofNat_le.1 h1)
    rcases Nat.div_eq_zero_iff.1 h2 with h3 | h3
    ·
     omega
    ·
     exact h3
 ·
  have hc:i.val<0:=niff_leb.1 hc
  have hj0:j=0:=by omega
  subst hj0
  refine Wp.done ?_
  show some ((l,()),())=some ((be (nby m.val) m.val,()),())
  rcases hl with ⟨rfl,hl⟩ | ⟨_,hl⟩
  ·
   have:m.val=0:=by rw [Nat.pow_zero] at hl; omega
   rw [this]; rfl
  ·
   rw [← hl]
   show _=some ((l++[],()),())
   rw [List.append_nil]
end Sym

/- Byte strings behind one another, both programs'; byte strings held against one another. -/
namespace Sym
open Go
theorem f4Z:∀ x y:Byt,d2Q x y=true↔x=y
 | [],[]=>by simp [d2Q]
 | [],_::_=>by simp [d2Q]
 | _::_,[]=>by simp [d2Q]
 | a::x,b::y=>by
  simp only [d2Q,Bool.and_eq_true,f4Z x y,List.cons.injEq]
  exact ⟨fun h=>⟨I.eq_of h.1,h.2⟩,fun h=>⟨by rw [h.1]; exact iff_eqb.2 rfl,h.2⟩⟩
theorem g2Z {x y:Byt} (h:x=y):b2D K0 ((x,(y,())),())=some ((true,()),()):=by
 show some ((d2Q x y,()),())=_
 rw [(f4Z x y).2 h]
theorem c8H {x y:Byt} (h:x=y):(some ((),(x,())):Option (Unit×(Byt×Unit)))=some ((),(y,())):=by rw [h]
theorem d0E (v:Nat) (h:v<U.top):(b5Z v).length≤33:=by
 rw [d0I]
 have:nby v≤32:=c7N h
 omega
theorem f7U (b:Byt) (h:b.length≤1073741824):(I.conv (k:=.i64) .u64 (I.ofNat .i64 (a0K b))).nat=b.length:=by
 show (I.of .u64 (I.ofNat .i64 b.length).val).nat=_
 rw [a2Z (by omega),b7N (by omega)]
theorem d2Z (b:Byt) (n:U) (h:b.length≤1073741000):a1V K0 ((b,(n,())),())=some ((),(b++b5Z n.val,())):=by
 refine Wp.out (T:=fun o=>o=some ((),(b++b5Z n.val,()))) ?_
 unfold a1V
 have hn:=g6M n
 refine Wp.optF (f4E n) (Wp.brnT (b4Q _ _ (by show 0+b.length≤_; omega)) (Wp.brnT (b4Q _ _ (by show (b.length+1:Nat)≤_; omega)) (Wp.brnT (b4Q _ _ ?_) ?_)))
 ·
  simp only [a2C,List.nil_append,List.length_append,List.length_singleton,d6J]
  omega
 ·
  show some ((),((([]++b)++[I.conv (k:=.i64) .u8 (I.ofNat .i64 (a0K (be (nby n.val) n.val)))])++be (nby n.val) n.val,()))=_
  have:I.conv (k:=.i64) .u8 (I.ofNat .i64 (a0K (be (nby n.val) n.val)))=I.of .u8 ((nby n.val:Nat):Int):=by
   show I.of .u8 (I.ofNat .i64 (be (nby n.val) n.val).length).val=_
   rw [d6J,a2Z (by omega)]
  rw [this]
  have e:((([]:Byt)++b)++[I.of .u8 ((nby n.val:Nat):Int)])++be (nby n.val) n.val=b++b5Z n.val:=by rw [List.nil_append,List.append_assoc]; rfl
  exact c8H e
theorem c8M (b:Byt) (n:I .u64) (h:b.length≤1073741000):a1B K0 ((b,(n,())),())=some ((),(b++b5Z n.nat,())):=by
 refine Wp.out (T:=fun o=>o=some ((),(b++b5Z n.nat,()))) ?_
 unfold a1B
 have hu:=c0S n
 refine Wp.optF (d2Z b (d3T n) h) ?_
 exact c8H (by rw [hu])
theorem f4F (b x:Byt) (h:b.length+x.length≤1073741000):a4Y K0 ((b,(x,())),())=some ((),(b++d4A x,())):=by
 refine Wp.out (T:=fun o=>o=some ((),(b++d4A x,()))) ?_
 unfold a4Y
 refine Wp.optF (c8M b _ (by omega)) ?_
 rw [f7U x (by omega)]
 have hn:=d0E x.length (by simp only [U.top]; omega)
 refine Wp.brnT (b4Q _ _ (by show (b++b5Z x.length).length+x.length≤_; rw [List.length_append]; omega)) ?_
 exact c8H (List.append_assoc ..)
theorem d1R (l:List Byt) (i:Nat) (h:i<l.length):(l.take (i+1)).flatten=(l.take i).flatten++l[i]:=by
 rw [List.take_succ_eq_append_getElem h,List.flatten_append,List.flatten_singleton]
theorem e6I (l:List Byt) (i:Nat):(l.take i).flatten.length≤l.flatten.length:=by
 have:l.flatten=(l.take i).flatten++(l.drop i).flatten:=by rw [← List.flatten_append,List.take_append_drop]
 rw [this,List.length_append]
 exact Nat.le_add_right _ _
theorem e3Y (l:List Byt) (hl:l.length≤1000) (h0:0<l.flatten.length) (h:l.flatten.length≤1073741824):a5C K0 ((l,()),())=some ((),(l.flatten,())):=by
 refine Wp.out (T:=fun o=>o=some ((),(l.flatten,()))) ?_
 unfold a5C
 have e0:I.of .i64 0=i6 0:=rfl
 have e1:I.of .i64 1=i6 1:=rfl
 simp only [e0,e1,a8H,a5Y]
 refine Wp.iter (fun x=>∃ i,i≤l.length∧x=((l,(i6 (l.take i).flatten.length,(l,(i6 l.length,(i6 i,()))))),())) (fun x=>l.length-x.1.2.2.2.2.1.val.toNat) ?_ ⟨0,Nat.zero_le _,rfl⟩ (by rw [a6Z]; show l.length-0<_; omega)
 rintro x ⟨i,hi,rfl⟩
 simp only [a2L (show i<9223372036854775808 by omega) (show l.length<9223372036854775808 by omega),a3J (show i<9223372036854775808 by omega)]
 have hle:=e6I l i
 refine Wp.brn (fun hc=>?_) (fun hc=>?_)
 ·
  have hc:=of_decide_eq_true hc
  have hle2:=e6I l (i+1)
  rw [d1R l i hc,List.length_append] at hle2
  refine Wp.brnT (a3H hc (by omega)) ?_
  rw [a3Y _ _ _ hc,a2K (show (l.take i).flatten.length+l[i].length<9223372036854775808 by omega),a2L (show (l.take i).flatten.length+l[i].length<9223372036854775808 by omega) (show 0<9223372036854775808 by omega)]
  refine Wp.brnF (decide_eq_false (by omega)) (Wp.again ⟨i+1,hc,?_⟩ ?_)
  ·
   rw [a2K (show i+1<9223372036854775808 by omega),d1R l i hc,List.length_append]
  ·
   show l.length-(I.add (i6 i) (i6 1)).val.toNat<l.length-(i6 i).val.toNat
   rw [a2K (by omega),a0Q (by omega),a0Q (by omega)]; omega
 ·
  have hc:=of_decide_eq_false hc
  have ht:l.take i=l:=List.take_of_length_le (by omega)
  rw [ht]
  simp only [c2V (show l.flatten.length<9223372036854775808 by omega) (Nat.zero_le _),Nat.sub_zero,a2L (show l.flatten.length<9223372036854775808 by omega) (show 0<9223372036854775808 by omega),a2L (show 0<9223372036854775808 by omega) (show l.flatten.length<9223372036854775808 by omega)]
  refine Wp.done (Wp.brnF (decide_eq_false (by omega)) (Wp.brnT (decide_eq_true h0) (Wp.brnT (decide_eq_true h0) (Wp.brnT (i6_inB' h (by omega)) (Wp.brnT (i6_inB' (Nat.zero_le _) (by omega)) ?_)))))
  refine Wp.iter (fun x=>∃ i,i≤l.length∧x=((l,(i6 l.length,(i6 i,()))),((l.take i).flatten,()))) (fun x=>l.length-x.1.2.2.1.val.toNat) ?_ ⟨0,Nat.zero_le _,rfl⟩ (by rw [a6Z]; show l.length-0<_; omega)
  rintro x ⟨i,hi,rfl⟩
  simp only [a2L (show i<9223372036854775808 by omega) (show l.length<9223372036854775808 by omega),a3J (show i<9223372036854775808 by omega)]
  refine Wp.brn (fun hc=>?_) (fun hc=>?_)
  ·
   have hc:=of_decide_eq_true hc
   have hle2:=e6I l (i+1)
   rw [d1R l i hc,List.length_append] at hle2
   refine Wp.brnT (a3H hc (by omega)) ?_
   rw [a3Y _ _ _ hc]
   refine Wp.brnT (b3P (by show ((l.take i).flatten++l[i]).length≤_; rw [List.length_append]; omega)) (Wp.again ⟨i+1,hc,?_⟩ ?_)
   ·
    rw [a2K (show i+1<9223372036854775808 by omega),d1R l i hc]
   ·
    show l.length-(I.add (i6 i) (i6 1)).val.toNat<l.length-(i6 i).val.toNat
    rw [a2K (by omega),a0Q (by omega),a0Q (by omega)]; omega
  ·
   have hc:=of_decide_eq_false hc
   have ht:l.take i=l:=List.take_of_length_le (by omega)
   rw [ht]
   exact Wp.done rfl
theorem f5Q (a b:Byt) (h:a.length+b.length≤1073741000):a9P K0 ((a,(b,())),())=some ((),(a++d4A b,())):=by
 refine Wp.out (T:=fun o=>o=some ((),(a++d4A b,()))) ?_
 unfold a9P
 refine Wp.optF (c7K _) (Wp.optF (f5K _) ?_)
 have hu:=c0S (I.conv (k:=.i64) .u64 (I.ofNat .i64 (a0K b)))
 rw [f7U b (by omega)] at hu
 have hn:=d0E b.length (by simp only [U.top]; omega)
 have hp:=d0I b.length
 rw [hu]
 have hf:[a,b5Z b.length,b].flatten=a++d4A b:=by
  show a++(b5Z b.length++(b++[]))=_
  rw [List.append_nil]
  rfl
 have hl:[a,b5Z b.length,b].flatten.length=a.length+((b5Z b.length).length+b.length):=by
  rw [hf]
  unfold d4A
  rw [List.length_append,List.length_append]
 refine Wp.optF (e3Y [a,b5Z b.length,b] (by show 3≤1000; omega) (by rw [hl]; omega) (by rw [hl]; omega)) ?_
 exact c8H hf
theorem d6A (l:List Byt) (x:Byt):d1U (l++[x])=d1U l++d4A x:=by
 rw [e9X]
 show d1U l++(d4A x++[])=_
 rw [List.append_nil]
theorem g3B (l:List Byt) (n:Nat):(d1U (l.take n)).length≤(d1U l).length:=by
 have:=e9X (l.take n) (l.drop n)
 rw [List.take_append_drop] at this
 rw [this,List.length_append]
 exact Nat.le_add_right _ _
theorem g1P {l:List Byt} {n:Nat} (h:n<l.length):(d1U (l.take n)).length+(d4A l[n]).length≤(d1U l).length:=by
 have:=g3B l (n+1)
 rw [List.take_succ_eq_append_getElem h,d6A,List.length_append] at this
 exact this
theorem g2G (l:List Byt):l.length≤(d1U l).length:=by
 induction l with
 | nil=>exact Nat.le_refl _
 | cons x l ih=>show l.length+1≤(d4A x++d1U l).length; rw [List.length_append,e1R]; omega
theorem i0K (l:List Byt) (h:(d1U l).length≤1073740000):c0R K0 ((l,()),())=some ((d1U l,()),()):=by
 refine Wp.out (T:=fun o=>o=some ((d1U l,()),())) ?_
 unfold c0R
 have hl:=g2G l
 refine Wp.iter (fun x=>∃ n,n≤l.length∧x=((l,(i6 l.length,(i6 n,()))),(d1U (l.take n),()))) (fun x=>l.length-x.1.2.2.1.val.toNat) ?_ ⟨0,Nat.zero_le _,rfl⟩ (by rw [a6Z]; show l.length-0<_; omega)
 rintro x ⟨n,hn,rfl⟩
 simp only [a2L (show n<9223372036854775808 by omega) (show l.length<9223372036854775808 by omega),a3J (show n<9223372036854775808 by omega)]
 refine Wp.brn (fun hc=>?_) (fun hc=>?_)
 ·
  have hc:=of_decide_eq_true hc
  have hm:=g1P hc
  have hb:=e1R l[n]
  refine Wp.brnT (a3H hc (by omega)) ?_
  rw [a3Y _ _ _ hc]
  refine Wp.optF (f5Q [] l[n] (by show 0+l[n].length≤_; omega)) (Wp.brnT (b4Q _ _ (by show (d1U (l.take n)).length+([]++d4A l[n]).length≤_; rw [List.nil_append]; omega)) (Wp.again ⟨n+1,hc,?_⟩ ?_))
  ·
   show ((l,(i6 l.length,(I.add (i6 n) (i6 1),()))),(d1U (l.take n)++([]++d4A l[n]),()))=_
   rw [a2K (by omega),List.nil_append,List.take_succ_eq_append_getElem hc,d6A]
  ·
   show l.length-(I.add (i6 n) (i6 1)).val.toNat<l.length-(i6 n).val.toNat
   rw [a2K (by omega),a0Q (by omega),a0Q (by omega)]; omega
 ·
  have hc:=of_decide_eq_false hc
  have:l.take n=l:=List.take_of_length_le (by omega)
  rw [this]
  exact Wp.done rfl
end Sym

/- What the wire's functions read, both programs': numbers. -/
namespace Sym
open Go
end Sym

/- What the reference reads; byte strings read, both programs'. -/
namespace Sym
open Go
end Sym

/- Lists of byte strings decoded, both programs'; the laws. -/
namespace Sym
open Go
theorem f7X:b2G K0 ((),())=some ((true,()),()):=by
 rw [a6Z]
 kernel_rfl
end Sym

/- Steps written, both programs'. -/
namespace Sym
open Go
theorem l64 {b:Byt} {k:Nat} (h:b.length≤k) (n:I .u64):(b++b5Z n.nat).length≤k+33:=by
 have:=d0E n.nat (by have:=a3A n; simp only [U.top]; omega)
 rw [List.length_append]; omega
theorem e8A {b:Byt} {k:Nat} (h:b.length≤k) (n:U):(b++b5Z n.val).length≤k+33:=by
 have:=d0E n.val (U.lt n)
 rw [List.length_append]; omega
theorem lBy {b:Byt} {k:Nat} (h:b.length≤k) {x:Byt} {m:Nat} (hx:x.length≤m) (hm:m≤1073741824):(b++d4A x).length≤k+(33+m):=by
 have:=d0E x.length (by simp only [U.top]; omega)
 rw [List.length_append]
 unfold d4A
 rw [List.length_append]; omega
theorem e3X (b:Byt) (n:U) (h:b.length≤1073741000):a3B K0 ((b,(n,())),())=some ((),(b++b5Z n.val,())):=by
 refine Wp.out (T:=fun o=>o=some ((),(b++b5Z n.val,()))) ?_
 unfold a3B
 have hn:=d0E n.val (U.lt n)
 have hp:=d0I n.val
 have hf:[b,b5Z n.val].flatten=b++b5Z n.val:=by
  show b++(b5Z n.val++[])=_
  rw [List.append_nil]
 have hl:[b,b5Z n.val].flatten.length=b.length+(b5Z n.val).length:=by rw [hf,List.length_append]
 refine Wp.optF (f5K n) (Wp.optF (e3Y [b,b5Z n.val] (by show 2≤1000; omega) (by rw [hl]; omega) (by rw [hl]; omega)) ?_)
 exact c8H hf
theorem e7K (b:Byt) (n:I .u64) (h:b.length≤1073741000):a1Z K0 ((b,(n,())),())=some ((),(b++b5Z n.nat,())):=by
 refine Wp.out (T:=fun o=>o=some ((),(b++b5Z n.nat,()))) ?_
 unfold a1Z
 have hu:=c0S n
 refine Wp.optF (c7K n) (Wp.optF (e3X b (d3T n) h) ?_)
 exact c8H (by rw [hu])
noncomputable def txE (a:a2W):Byt :=
 ((((((((([]:Byt)++b5Z a.1.nat)++b5Z a.2.1.nat)++b5Z a.2.2.1.nat)++b5Z a.2.2.2.1.val)++b5Z a.2.2.2.2.1.nat)++b5Z a.2.2.2.2.2.1.val)++b5Z a.2.2.2.2.2.2.1.val)++b5Z a.2.2.2.2.2.2.2.1.nat)++d4A a.2.2.2.2.2.2.2.2.1
theorem e6Z (a:a2W) (h:List.length a.2.2.2.2.2.2.2.2.1≤4096):(txE a).length≤5000:=by
 have h0:([]:Byt).length≤0:=Nat.le_refl _
 have h1:=l64 h0 a.1
 have h2:=l64 h1 a.2.1
 have h3:=l64 h2 a.2.2.1
 have h4:=e8A h3 a.2.2.2.1
 have h5:=l64 h4 a.2.2.2.2.1
 have h6:=e8A h5 a.2.2.2.2.2.1
 have h7:=e8A h6 a.2.2.2.2.2.2.1
 have h8:=l64 h7 a.2.2.2.2.2.2.2.1
 have h9:=lBy h8 h (by omega)
 exact Nat.le_trans h9 (by omega)
theorem f0K {n:Nat} (h:n≤140737488355328):I.ltb (I.of .i64 4096) (I.ofNat .i64 n)=decide (4096<n):=by
 rw [a5Y,show I.of .i64 4096=i6 4096 from rfl,a2L (by omega) (by omega)]
abbrev TxO:Type:=(Byt×I .i64×Unit)×Unit
noncomputable def txO (a:a2W):TxO:=if 4096<List.length a.2.2.2.2.2.2.2.2.1 then (([],(I.of .i64 6,())),()) else ((txE a,(I.of .i64 0,())),())
theorem wTx (a:a2W) (hd:List.length a.2.2.2.2.2.2.2.2.1≤140737488355328):d0L K0 ((a,()),())=some (txO a):=by
 refine Wp.out (T:=fun o=>o=some (txO a)) ?_
 unfold d0L
 refine Wp.brn (fun hc=>?_) (fun hc=>?_)
 ·
  have e:txO a=(([],(I.of .i64 6,())),()):=if_pos (of_decide_eq_true ((f0K hd).symm.trans hc))
  rw [e]; exact rfl
 have hc:=of_decide_eq_false ((f0K hd).symm.trans hc)
 have e:txO a=((txE a,(I.of .i64 0,())),()):=if_neg hc
 have h0:([]:Byt).length≤0:=Nat.le_refl _
 have h1:=l64 h0 a.1
 have h2:=l64 h1 a.2.1
 have h3:=l64 h2 a.2.2.1
 have h4:=e8A h3 a.2.2.2.1
 have h5:=l64 h4 a.2.2.2.2.1
 have h6:=e8A h5 a.2.2.2.2.2.1
 have h7:=e8A h6 a.2.2.2.2.2.2.1
 have h8:=l64 h7 a.2.2.2.2.2.2.2.1
 rw [e]
 exact Wp.optF (e7K _ _ (Nat.le_trans h0 (by omega))) (Wp.optF (e7K _ _ (Nat.le_trans h1 (by omega))) (Wp.optF (e7K _ _ (Nat.le_trans h2 (by omega))) (Wp.optF (e3X _ _ (Nat.le_trans h3 (by omega))) (Wp.optF (e7K _ _ (Nat.le_trans h4 (by omega))) (Wp.optF (e3X _ _ (Nat.le_trans h5 (by omega))) (Wp.optF (e3X _ _ (Nat.le_trans h6 (by omega))) (Wp.optF (e7K _ _ (Nat.le_trans h7 (by omega))) (Wp.optF (f5Q _ _ (Nat.le_trans (Nat.add_le_add h8 (Nat.le_of_not_lt hc)) (by omega))) rfl))))))))
theorem rTx (a:a2W) (hd:List.length a.2.2.2.2.2.2.2.2.1≤140737488355328):b1Q K0 ((a,()),())=some (txO a):=by
 refine Wp.out (T:=fun o=>o=some (txO a)) ?_
 unfold b1Q
 refine Wp.brn (fun hc=>?_) (fun hc=>?_)
 ·
  have e:txO a=(([],(I.of .i64 6,())),()):=if_pos (of_decide_eq_true ((f0K hd).symm.trans hc))
  rw [e]; exact rfl
 have hc:=of_decide_eq_false ((f0K hd).symm.trans hc)
 have e:txO a=((txE a,(I.of .i64 0,())),()):=if_neg hc
 have h0:([]:Byt).length≤0:=Nat.le_refl _
 have h1:=l64 h0 a.1
 have h2:=l64 h1 a.2.1
 have h3:=l64 h2 a.2.2.1
 have h4:=e8A h3 a.2.2.2.1
 have h5:=l64 h4 a.2.2.2.2.1
 have h6:=e8A h5 a.2.2.2.2.2.1
 have h7:=e8A h6 a.2.2.2.2.2.2.1
 have h8:=l64 h7 a.2.2.2.2.2.2.2.1
 rw [e]
 exact Wp.optF (c8M _ _ (Nat.le_trans h0 (by omega))) (Wp.optF (c8M _ _ (Nat.le_trans h1 (by omega))) (Wp.optF (c8M _ _ (Nat.le_trans h2 (by omega))) (Wp.optF (d2Z _ _ (Nat.le_trans h3 (by omega))) (Wp.optF (c8M _ _ (Nat.le_trans h4 (by omega))) (Wp.optF (d2Z _ _ (Nat.le_trans h5 (by omega))) (Wp.optF (d2Z _ _ (Nat.le_trans h6 (by omega))) (Wp.optF (c8M _ _ (Nat.le_trans h7 (by omega))) (Wp.optF (f4F _ _ (Nat.le_trans (Nat.add_le_add h8 (Nat.le_of_not_lt hc)) (by omega))) rfl))))))))
noncomputable def hsB (h:a0D):Byt:=a3T (Arr.list 32 h) 0 32
noncomputable def hsE (l:List a0D):Byt:=(l.map hsB).flatten
theorem e9J (l:List a0D) (i:Nat) (h:i<l.length):hsE (l.take (i+1))=hsE (l.take i)++hsB l[i]:=by
 unfold hsE
 rw [List.take_succ_eq_append_getElem h,List.map_append,List.flatten_append]
 show _++(hsB l[i]++[])=_
 rw [List.append_nil]
theorem e6L (l:List a0D):(hsE l).length=32*l.length:=by
 unfold hsE
 induction l with
 | nil=>rfl
 | cons x l ih =>
  rw [List.map_cons,List.flatten_cons,List.length_append,ih]
  have:(hsB x).length=32:=rfl
  rw [this,List.length_cons]
  omega
noncomputable def clE (b:Byt) (c:a8I):Byt:=(((((b++b5Z c.1.nat)++b5Z c.2.1.nat)++b5Z c.2.2.1.nat)++b5Z c.2.2.2.1.val)++b5Z (List.length c.2.2.2.2.1))++hsE c.2.2.2.2.1
theorem f0W (l:List a0D) (h:l.length≤1073741824):(I.conv (k:=.i64) .u64 (I.ofNat .i64 (a0K l))).nat=l.length:=by
 show (I.of .u64 (I.ofNat .i64 l.length).val).nat=_
 rw [a2Z (by omega),b7N (by omega)]
theorem g6A (b:Byt) (c:a8I) (hb:b.length≤1) (h:List.length c.2.2.2.2.1≤64):(clE b c).length≤5000:=by
 have h1:=l64 hb c.1
 have h2:=l64 h1 c.2.1
 have h3:=l64 h2 c.2.2.1
 have h4:=e8A h3 c.2.2.2.1
 have h5:=d0E (List.length c.2.2.2.2.1) (by simp only [U.top]; omega)
 have h6:=e6L c.2.2.2.2.1
 unfold clE
 rw [List.length_append,List.length_append]
 omega
theorem wCl (b:Byt) (c:a8I) (hb:b.length≤1) (h:List.length c.2.2.2.2.1≤64):b5P K0 ((b,(c,())),())=some ((clE b c,()),()):=by
 refine Wp.out (T:=fun o=>o=some ((clE b c,()),())) ?_
 unfold b5P
 have h1:=l64 hb c.1
 have h2:=l64 h1 c.2.1
 have h3:=l64 h2 c.2.2.1
 have h4:=e8A h3 c.2.2.2.1
 have h5:=l64 h4 (I.conv (k:=.i64) .u64 (I.ofNat .i64 (a0K c.2.2.2.2.1)))
 refine Wp.optF (e7K _ _ (Nat.le_trans hb (by omega))) (Wp.optF (e7K _ _ (Nat.le_trans h1 (by omega))) (Wp.optF (e7K _ _ (Nat.le_trans h2 (by omega))) (Wp.optF (e3X _ _ (Nat.le_trans h3 (by omega))) (Wp.optF (e7K _ _ (Nat.le_trans h4 (by omega))) ?_))))
 have hcl:=f0W c.2.2.2.2.1 (by omega)
 obtain ⟨w,hw⟩:∃ w,((((b++b5Z c.1.nat)++b5Z c.2.1.nat)++b5Z c.2.2.1.nat)++b5Z c.2.2.2.1.val)++b5Z (I.conv (k:=.i64) .u64 (I.ofNat .i64 (a0K c.2.2.2.2.1))).nat=w:=⟨_,rfl⟩
 have hwl:w.length≤1000:=by rw [← hw]; exact Nat.le_trans h5 (by omega)
 have hcE:clE b c=w++hsE c.2.2.2.2.1:=by rw [← hw,hcl]; rfl
 obtain ⟨l,hl⟩:∃ l:List a0D,c.2.2.2.2.1=l:=⟨_,rfl⟩
 rw [hcE]
 rw [hl] at h ⊢
 refine Wp.iter (fun x=>∃ i,i≤l.length∧x=((l,(i6 l.length,(i6 i,()))),(w++hsE (l.take i),()))) (fun x=>l.length-x.1.2.2.1.val.toNat) ?_ ⟨0,Nat.zero_le _,?_⟩ (by rw [a6Z]; show l.length-0<_; omega)
 case refine_2 =>
  have e:w++hsE (l.take 0)=w:=List.append_nil w
  rw [e,← hw,← hl]
  rfl
 rintro x ⟨i,hi,rfl⟩
 have hlen:=e6L (l.take i)
 rw [List.length_take,Nat.min_eq_left hi] at hlen
 simp only [a2L (show i<9223372036854775808 by omega) (show l.length<9223372036854775808 by omega),a3J (show i<9223372036854775808 by omega)]
 refine Wp.brn (fun hc=>?_) (fun hc=>?_)
 ·
  have hc:=of_decide_eq_true hc
  refine Wp.brnT (a3H hc (by omega)) ?_
  rw [a3Y _ _ _ hc]
  refine Wp.brnT (b4Q _ _ (by show (w++hsE (l.take i)).length+32≤_; rw [List.length_append,hlen]; omega)) (Wp.again ⟨i+1,hc,?_⟩ ?_)
  ·
   show ((l,(i6 l.length,(I.add (i6 i) (i6 1),()))),((w++hsE (l.take i))++hsB l[i],()))=_
   rw [a2K (by omega),e9J l i hc,List.append_assoc]
  ·
   show l.length-(I.add (i6 i) (i6 1)).val.toNat<l.length-(i6 i).val.toNat
   rw [a2K (by omega),a0Q (by omega),a0Q (by omega)]; omega
 ·
  have hc:=of_decide_eq_false hc
  have:l.take i=l:=List.take_of_length_le (by omega)
  rw [this]
  exact Wp.done rfl
theorem rCl (b:Byt) (c:a8I) (hb:b.length≤1) (h:List.length c.2.2.2.2.1≤64):b2R K0 ((b,(c,())),())=some ((clE b c,()),()):=by
 refine Wp.out (T:=fun o=>o=some ((clE b c,()),())) ?_
 unfold b2R
 have h1:=l64 hb c.1
 have h2:=l64 h1 c.2.1
 have h3:=l64 h2 c.2.2.1
 have h4:=e8A h3 c.2.2.2.1
 have h5:=l64 h4 (I.conv (k:=.i64) .u64 (I.ofNat .i64 (a0K c.2.2.2.2.1)))
 refine Wp.optF (c8M _ _ (Nat.le_trans hb (by omega))) (Wp.optF (c8M _ _ (Nat.le_trans h1 (by omega))) (Wp.optF (c8M _ _ (Nat.le_trans h2 (by omega))) (Wp.optF (d2Z _ _ (Nat.le_trans h3 (by omega))) (Wp.optF (c8M _ _ (Nat.le_trans h4 (by omega))) ?_))))
 have hcl:=f0W c.2.2.2.2.1 (by omega)
 obtain ⟨w,hw⟩:∃ w,((((b++b5Z c.1.nat)++b5Z c.2.1.nat)++b5Z c.2.2.1.nat)++b5Z c.2.2.2.1.val)++b5Z (I.conv (k:=.i64) .u64 (I.ofNat .i64 (a0K c.2.2.2.2.1))).nat=w:=⟨_,rfl⟩
 have hwl:w.length≤1000:=by rw [← hw]; exact Nat.le_trans h5 (by omega)
 have hcE:clE b c=w++hsE c.2.2.2.2.1:=by rw [← hw,hcl]; rfl
 rw [hcE]
 refine Wp.iter (fun x=>∃ i,i≤List.length c.2.2.2.2.1∧x=((i6 i,()),(w++hsE (List.take i c.2.2.2.2.1),(c,())))) (fun x=>List.length c.2.2.2.2.1-x.1.1.val.toNat) ?_ ⟨0,Nat.zero_le _,?_⟩ (by rw [a6Z]; show List.length c.2.2.2.2.1-0<_; omega)
 case refine_2 =>
  have e:w++hsE (List.take 0 c.2.2.2.2.1)=w:=List.append_nil w
  rw [e,← hw]
  rfl
 rintro x ⟨i,hi,rfl⟩
 have hlen:=e6L (List.take i c.2.2.2.2.1)
 rw [List.length_take,Nat.min_eq_left hi] at hlen
 simp only [a5Y,a8H,a2L (show i<9223372036854775808 by omega) (show List.length c.2.2.2.2.1<9223372036854775808 by omega),a3J (show i<9223372036854775808 by omega)]
 refine Wp.brn (fun hc=>?_) (fun hc=>?_)
 ·
  have hc:=of_decide_eq_true hc
  refine Wp.brnT (a3H hc (by omega)) ?_
  have hr:=a3Y a1X _ _ hc
  refine Wp.brnT (b4Q _ _ (by show (w++hsE (List.take i c.2.2.2.2.1)).length+32≤_; rw [List.length_append,hlen]; omega)) (Wp.again ⟨i+1,hc,?_⟩ ?_)
  ·
   show ((I.add (i6 i) (i6 1),()),((w++hsE (List.take i c.2.2.2.2.1))++hsB (rdL a1X c.2.2.2.2.1 i),(c,())))=_
   rw [a2K (by omega),e9J _ i hc,List.append_assoc,hr]
  ·
   show List.length c.2.2.2.2.1-(I.add (i6 i) (i6 1)).val.toNat<List.length c.2.2.2.2.1-(i6 i).val.toNat
   rw [a2K (by omega),a0Q (by omega),a0Q (by omega)]; omega
 ·
  have hc:=of_decide_eq_false hc
  have:List.take i c.2.2.2.2.1=c.2.2.2.2.1:=List.take_of_length_le (by omega)
  rw [this]
  exact Wp.done rfl
end Sym

/- A step written, both programs'; a list of steps. -/
namespace Sym
open Go
theorem f9W {n:Nat} (h:n≤140737488355328):I.ltb (I.of .i64 64) (I.ofNat .i64 n)=decide (64<n):=by
 rw [a5Y,show I.of .i64 64=i6 64 from rfl,a2L (by omega) (by omega)]
theorem cEq {a:I .i64} {k:Int} (hk:-9223372036854775808≤k∧k<9223372036854775808):I.eqb a (I.of .i64 k)=true↔a.val=k:=by
 rw [iff_eqb,b6T hk]
theorem d9P {a:I .i64} {k:Int} (hk:-9223372036854775808≤k∧k<9223372036854775808):I.eqb a (I.of .i64 k)=false↔a.val≠k:=by
 rw [niff_eqb,b6T hk]
noncomputable def kB (s:a0J):Byt:=[I.conv (k:=.i64) .u8 s.1]
open Classical in
noncomputable def stO (s:a0J):TxO :=
 if s.1.val<1∨7<s.1.val then (([],(I.of .i64 17,())),())
 else if s.1.val=1 then (if 4096<List.length s.2.1.2.2.2.2.2.2.2.2.1 then (([],(I.of .i64 6,())),()) else ((kB s++d4A (txE s.2.1),(I.of .i64 0,())),()))
 else if s.1.val=2 then ((((kB s++b5Z s.2.2.1.1.nat)++b5Z s.2.2.1.2.1.nat)++b5Z s.2.2.1.2.2.1.val,(I.of .i64 0,())),())
 else if s.1.val=3 then ((kB s++b5Z s.2.2.2.1.nat,(I.of .i64 0,())),())
 else if s.1.val=4 then (if s.2.2.2.2.1.val<0 then (([],(I.of .i64 2,())),()) else (((kB s++b5Z (I.conv (k:=.i64) .u64 s.2.2.2.2.1).nat)++b5Z s.2.2.2.2.2.1.val,(I.of .i64 0,())),()))
 else if s.1.val=5 then ((kB s++b5Z s.2.2.2.2.2.2.1.nat,(I.of .i64 0,())),())
 else if s.1.val=6 then (((kB s++b5Z s.2.2.2.2.2.2.1.nat)++b5Z s.2.2.2.2.2.1.val,(I.of .i64 0,())),())
 else (if 64<List.length s.2.2.2.2.2.2.2.1.2.2.2.2.1 then (([],(I.of .i64 6,())),()) else ((clE (kB s) s.2.2.2.2.2.2.2.1,(I.of .i64 0,())),()))
theorem f7Z (s:a0J):(kB s).length≤1:=Nat.le_refl _
theorem h8G:I.neb (I.of .i64 0) (I.of .i64 0)=false:=rfl
theorem h8J:I.neb (I.of .i64 6) (I.of .i64 0)=true:=rfl
theorem rSt (s:a0J) (hd:List.length s.2.1.2.2.2.2.2.2.2.2.1≤140737488355328) (hp:List.length s.2.2.2.2.2.2.2.1.2.2.2.2.1≤140737488355328):b1D K0 ((s,()),())=some (stO s):=by
 refine Wp.out (T:=fun o=>o=some (stO s)) ?_
 unfold b1D
 have hk0:=f7Z s
 have hv:a4C K0 ((s.1,()),())=some ((decide (1≤s.1.val∧s.1.val≤7),()),()):=by
  refine Wp.out (T:=fun o=>o=some ((decide (1≤s.1.val∧s.1.val≤7),()),())) ?_
  unfold a4C
  have e1:(I.of .i64 1).val=1:=rfl
  have e7:(I.of .i64 7).val=7:=rfl
  refine Wp.brn (fun hc=>?_) (fun hc=>?_)
  ·
   have hc:=iff_leb.1 hc
   rw [e1] at hc
   show some ((I.leb s.1 (I.of .i64 7),()),())=_
   have:I.leb s.1 (I.of .i64 7)=decide (1≤s.1.val∧s.1.val≤7):=by
    by_cases h:s.1.val≤7
    ·
     rw [decide_eq_true ⟨hc,h⟩]; exact iff_leb.2 (by rw [e7]; exact h)
    ·
     rw [decide_eq_false (by omega)]; exact niff_leb.2 (by rw [e7]; omega)
   rw [this]
  ·
   have hc:=niff_leb.1 hc
   rw [e1] at hc
   have hc:s.1.val<1:=hc
   rw [decide_eq_false (by omega)]
   exact rfl
 refine Wp.optF hv (Wp.brn (fun hc=>?_) (fun hc=>?_))
 ·
  have hc:¬ (1≤s.1.val∧s.1.val≤7):=by
   intro h
   have hc:(!decide (1≤s.1.val∧s.1.val≤7))=true:=hc
   rw [decide_eq_true h] at hc
   cases hc
  have e:stO s=(([],(I.of .i64 17,())),()):=if_pos (by omega)
  rw [e]; exact rfl
 have hc:1≤s.1.val∧s.1.val≤7:=by
  have hc:(!decide (1≤s.1.val∧s.1.val≤7))=false:=hc
  by_cases h:1≤s.1.val∧s.1.val≤7
  ·
   exact h
  ·
   rw [decide_eq_false h] at hc; cases hc
 have hn:¬ (s.1.val<1∨7<s.1.val):=by omega
 unfold stO
 rw [if_neg hn]
 refine Wp.brn (fun h1=>?_) (fun h1=>?_)
 ·
  rw [if_pos ((cEq (by omega)).1 h1)]
  refine Wp.optF (rTx s.2.1 hd) ?_
  unfold txO
  by_cases h:4096<List.length s.2.1.2.2.2.2.2.2.2.2.1
  ·
   rw [if_pos h,if_pos h]
   exact Wp.brnT h8J rfl
  ·
   rw [if_neg h,if_neg h]
   have hl:=e6Z s.2.1 (by omega)
   exact Wp.brnF h8G (Wp.optF (f4F _ _ (Nat.le_trans (Nat.add_le_add hk0 hl) (by omega))) rfl)
 rw [if_neg ((d9P (by omega)).1 h1)]
 refine Wp.brn (fun h2=>?_) (fun h2=>?_)
 ·
  rw [if_pos ((cEq (by omega)).1 h2)]
  have g1:=l64 hk0 s.2.2.1.1
  have g2:=l64 g1 s.2.2.1.2.1
  exact Wp.optF (c8M _ _ (Nat.le_trans hk0 (by omega))) (Wp.optF (c8M _ _ (Nat.le_trans g1 (by omega))) (Wp.optF (d2Z _ _ (Nat.le_trans g2 (by omega))) rfl))
 rw [if_neg ((d9P (by omega)).1 h2)]
 refine Wp.brn (fun h3=>?_) (fun h3=>?_)
 ·
  rw [if_pos ((cEq (by omega)).1 h3)]
  exact Wp.optF (c8M _ _ (Nat.le_trans hk0 (by omega))) rfl
 rw [if_neg ((d9P (by omega)).1 h3)]
 refine Wp.brn (fun h4=>?_) (fun h4=>?_)
 ·
  rw [if_pos ((cEq (by omega)).1 h4)]
  refine Wp.brn (fun h=>?_) (fun h=>?_)
  ·
   have h:s.2.2.2.2.1.val<0:=iff_ltb.1 h
   rw [if_pos h]; exact rfl
  ·
   have h:0≤s.2.2.2.2.1.val:=niff_ltb.1 h
   rw [if_neg (by omega)]
   exact Wp.optF (c8M _ _ (Nat.le_trans hk0 (by omega))) (Wp.optF (d2Z _ _ (Nat.le_trans (l64 hk0 _) (by omega))) rfl)
 rw [if_neg ((d9P (by omega)).1 h4)]
 refine Wp.brn (fun h5=>?_) (fun h5=>?_)
 ·
  rw [if_pos ((cEq (by omega)).1 h5)]
  exact Wp.optF (c8M _ _ (Nat.le_trans hk0 (by omega))) rfl
 rw [if_neg ((d9P (by omega)).1 h5)]
 refine Wp.brn (fun h6=>?_) (fun h6=>?_)
 ·
  rw [if_pos ((cEq (by omega)).1 h6)]
  exact Wp.optF (c8M _ _ (Nat.le_trans hk0 (by omega))) (Wp.optF (d2Z _ _ (Nat.le_trans (l64 hk0 _) (by omega))) rfl)
 rw [if_neg ((d9P (by omega)).1 h6)]
 refine Wp.brn (fun h7=>?_) (fun h7=>?_)
 ·
  rw [if_pos (of_decide_eq_true ((f9W hp).symm.trans h7))]; exact rfl
 ·
  have h7:=of_decide_eq_false ((f9W hp).symm.trans h7)
  rw [if_neg h7]
  exact Wp.optF (rCl (kB s) _ hk0 (Nat.le_of_not_lt h7)) rfl
theorem wSt (s:a0J) (hd:List.length s.2.1.2.2.2.2.2.2.2.2.1≤140737488355328) (hp:List.length s.2.2.2.2.2.2.2.1.2.2.2.2.1≤140737488355328):c4W K0 ((s,()),())=some (stO s):=by
 refine Wp.out (T:=fun o=>o=some (stO s)) ?_
 unfold c4W
 have hk0:=f7Z s
 have e1:(I.of .i64 1).val=1:=rfl
 have e7:(I.of .i64 7).val=7:=rfl
 refine Wp.jn (fun x=>(¬ (s.1.val<1∨7<s.1.val)∧(s.1.val=4→0≤s.2.2.2.2.1.val)∧(s.1.val=7→List.length s.2.2.2.2.2.2.2.1.2.2.2.2.1≤64))∧x=((),(s,()))) ?_ (fun j0 hj0=>?_)
 ·
  rintro x ⟨⟨hn,hq4,hq7⟩,rfl⟩
  unfold stO
  rw [if_neg hn]
  refine Wp.brn (fun h1=>?_) (fun h1=>?_)
  ·
   rw [if_pos ((cEq (by omega)).1 h1)]
   refine Wp.optF (wTx s.2.1 hd) ?_
   unfold txO
   by_cases h:4096<List.length s.2.1.2.2.2.2.2.2.2.2.1
   ·
    rw [if_pos h,if_pos h]
    exact Wp.brnT h8J rfl
   ·
    rw [if_neg h,if_neg h]
    have hl:=e6Z s.2.1 (by omega)
    exact Wp.brnF h8G (Wp.optF (f5Q _ _ (Nat.le_trans (Nat.add_le_add hk0 hl) (by omega))) rfl)
  rw [if_neg ((d9P (by omega)).1 h1)]
  refine Wp.brn (fun h2=>?_) (fun h2=>?_)
  ·
   rw [if_pos ((cEq (by omega)).1 h2)]
   have g1:=l64 hk0 s.2.2.1.1
   have g2:=l64 g1 s.2.2.1.2.1
   exact Wp.optF (e7K _ _ (Nat.le_trans hk0 (by omega))) (Wp.optF (e7K _ _ (Nat.le_trans g1 (by omega))) (Wp.optF (e3X _ _ (Nat.le_trans g2 (by omega))) rfl))
  rw [if_neg ((d9P (by omega)).1 h2)]
  refine Wp.brn (fun h3=>?_) (fun h3=>?_)
  ·
   rw [if_pos ((cEq (by omega)).1 h3)]
   exact Wp.optF (e7K _ _ (Nat.le_trans hk0 (by omega))) rfl
  rw [if_neg ((d9P (by omega)).1 h3)]
  refine Wp.brn (fun h4=>?_) (fun h4=>?_)
  ·
   have h4:=(cEq (by omega)).1 h4
   rw [if_pos h4,if_neg (by have:=hq4 h4; omega)]
   exact Wp.optF (e7K _ _ (Nat.le_trans hk0 (by omega))) (Wp.optF (e3X _ _ (Nat.le_trans (l64 hk0 _) (by omega))) rfl)
  rw [if_neg ((d9P (by omega)).1 h4)]
  refine Wp.brn (fun h5=>?_) (fun h5=>?_)
  ·
   rw [if_pos ((cEq (by omega)).1 h5)]
   exact Wp.optF (e7K _ _ (Nat.le_trans hk0 (by omega))) rfl
  rw [if_neg ((d9P (by omega)).1 h5)]
  refine Wp.brn (fun h6=>?_) (fun h6=>?_)
  ·
   rw [if_pos ((cEq (by omega)).1 h6)]
   exact Wp.optF (e7K _ _ (Nat.le_trans hk0 (by omega))) (Wp.optF (e3X _ _ (Nat.le_trans (l64 hk0 _) (by omega))) rfl)
  rw [if_neg ((d9P (by omega)).1 h6)]
  have h71:s.1.val≠1:=(d9P (by omega)).1 h1
  have h72:s.1.val≠2:=(d9P (by omega)).1 h2
  have h73:s.1.val≠3:=(d9P (by omega)).1 h3
  have h74:s.1.val≠4:=(d9P (by omega)).1 h4
  have h75:s.1.val≠5:=(d9P (by omega)).1 h5
  have h76:s.1.val≠6:=(d9P (by omega)).1 h6
  have h77:s.1.val=7:=by omega
  refine Wp.brnT ((cEq (by omega)).2 h77) ?_
  rw [if_neg (by have:=hq7 h77; omega)]
  exact Wp.optF (wCl (kB s) _ hk0 (hq7 h77)) rfl
 refine Wp.jn (fun x=>∃ t:Bool,x=((t,()),(s,()))∧(t=true↔(s.1.val<1∨7<s.1.val))) ?_ (fun j1 hj1=>?_)
 ·
  rintro x ⟨t,rfl,ht⟩
  refine Wp.brn (fun hc=>?_) (fun hc=>?_)
  ·
   have e:stO s=(([],(I.of .i64 17,())),()):=if_pos (ht.1 hc)
   rw [e]; exact rfl
  have hn:¬ (s.1.val<1∨7<s.1.val):=fun h=>by have:=ht.2 h; have hc:t=false:=hc; rw [hc] at this; cases this
  refine Wp.jn (fun x=>∃ t:Bool,x=((t,()),(s,()))∧(t=true↔(s.1.val=4∧s.2.2.2.2.1.val<0))) ?_ (fun j2 hj2=>?_)
  ·
   rintro x ⟨t,rfl,ht⟩
   refine Wp.brn (fun hc=>?_) (fun hc=>?_)
   ·
    obtain ⟨h4,h0⟩:=ht.1 hc
    have e:stO s=(([],(I.of .i64 2,())),()):=by
     unfold stO
     rw [if_neg hn,if_neg (by omega),if_neg (by omega),if_neg (by omega),if_pos h4,if_pos h0]
    rw [e]; exact rfl
   have hq4:s.1.val=4→0≤s.2.2.2.2.1.val:=fun h=>by
    by_cases h0:s.2.2.2.2.1.val<0
    ·
     have:=ht.2 ⟨h,h0⟩; have hc:t=false:=hc; rw [hc] at this; cases this
    ·
     omega
   refine Wp.brn (fun h7=>?_) (fun h7=>?_)
   ·
    have h7:=(cEq (by omega)).1 h7
    have h7:s.1.val=7:=h7
    refine Wp.brn (fun h=>?_) (fun h=>?_)
    ·
     have h:=of_decide_eq_true ((f9W hp).symm.trans h)
     have e:stO s=(([],(I.of .i64 6,())),()):=by
      unfold stO
      rw [if_neg hn,if_neg (by omega),if_neg (by omega),if_neg (by omega),if_neg (by omega),if_neg (by omega),if_neg (by omega),if_pos h]
     rw [e]; exact rfl
    ·
     have h:=of_decide_eq_false ((f9W hp).symm.trans h)
     exact hj0 _ ⟨⟨hn,hq4,fun _=>by omega⟩,rfl⟩
   ·
    have h7:=(d9P (by omega)).1 h7
    have h7:s.1.val≠7:=h7
    exact hj0 _ ⟨⟨hn,hq4,fun h=>absurd h h7⟩,rfl⟩
  ·
   refine Wp.brn (fun h4=>?_) (fun h4=>?_)
   ·
    have h4:=(cEq (by omega)).1 h4
    have h4:s.1.val=4:=h4
    have e0:(I.of .i64 0).val=0:=rfl
    exact hj2 _ ⟨_,rfl,⟨fun h=>⟨h4,by have:=iff_ltb.1 h; rw [e0] at this; exact this⟩,fun h=>iff_ltb.2 (by rw [e0]; exact h.2)⟩⟩
   ·
    have h4:=(d9P (by omega)).1 h4
    have h4:s.1.val≠4:=h4
    exact hj2 _ ⟨false,rfl,⟨fun h=>(by cases h),fun h=>absurd h.1 h4⟩⟩
 ·
  refine Wp.brn (fun hc=>?_) (fun hc=>?_)
  ·
   have hc:=iff_ltb.1 hc
   rw [e1] at hc
   have hc:s.1.val<1:=hc
   exact hj1 _ ⟨true,rfl,⟨fun _=>.inl hc,fun _=>rfl⟩⟩
  ·
   have hc:=niff_ltb.1 hc
   rw [e1] at hc
   have hc:1≤s.1.val:=hc
   exact hj1 _ ⟨_,rfl,⟨fun h=>by have:=iff_ltb.1 h; rw [e7] at this; exact .inr this,fun h=>iff_ltb.2 (by rw [e7]; exact h.elim (fun h=>absurd hc (by omega)) (fun h=>h))⟩⟩
end Sym

/- Messages' leaves, roots and proofs of the reference: they end. -/
namespace Sym
open Go
theorem f2D (a:U):∃ y,a6F K0 ((a,()),())=some y∧∃ l:By,y=((l,()),())∧l.length≤32:=by
 refine Wp.out (T:=fun o=>∃ y,o=some y∧∃ l:By,y=((l,()),())∧l.length≤32) ?_
 unfold a6F
 refine Wp.iter (fun x=>∃ j:Nat,j≤32∧x.1.1.val=31-(j:Int)∧List.length x.2.2.1≤j) (fun x=>(x.1.1.val+1).toNat) ?_ ⟨0,by omega,rfl,Nat.le_refl _⟩ (by rw [a6Z]; show ((I.of .i64 31).val+1).toNat<_; decide)
 rintro ⟨⟨i,⟨⟩⟩,u,l,⟨⟩⟩ ⟨j,hj,hi,hl⟩
 simp only at hi hl
 refine Wp.brn (fun hc=>?_) (fun hc=>?_)
 ·
  have hc:0≤i.val:=iff_leb.1 hc
  have hq:(I.quo i (I.of .i64 8)).val=i.val / 8:=c1Q hc (by decide)
  have hs:(I.sub i (I.of .i64 1)).val=i.val-1:=by rw [a8Q (by rw [show (I.of .i64 1).val=1 from rfl]; omega)]; rfl
  have hin:inB (I.quo i (I.of .i64 8)) 4=true:=iff_inB.2 (by rw [hq]; omega)
  have hmu:((I.sub i (I.of .i64 1)).val+1).toNat<(i.val+1).toNat:=by rw [hs]; omega
  have hv:(I.sub i (I.of .i64 1)).val=31-((j+1:Nat):Int):=by rw [hs]; omega
  have hlen:∀ b:I .u8,(a2C l [b]).length≤j+1:=fun b=>by rw [a9E]; show l.length+1≤_; omega
  have hfit:∀ b:I .u8,a1D (a0K (a2C l [b]))=true:=fun b=>b4Q _ _ (by show l.length+1≤_; omega)
  refine Wp.brnT hin (Wp.brnT (c4P _) (Wp.brn (fun _=>Wp.brnT (hfit _) (Wp.again ⟨j+1,by omega,hv,hlen _⟩ hmu)) (fun _=>Wp.brn (fun _=>Wp.brnT (hfit _) (Wp.again ⟨j+1,by omega,hv,hlen _⟩ hmu)) (fun _=>Wp.again ⟨j+1,by omega,hv,Nat.le_succ_of_le hl⟩ hmu))))
 ·
  exact Wp.done ⟨_,rfl,l,rfl,by omega⟩
theorem d8V (a:By) (b:U) (ha:a.length≤1000000000):∃ y,a5M K0 ((a,(b,())),())=some y∧∃ l:By,y=((l,()),())∧l.length≤a.length+33:=by
 refine Wp.out (T:=fun o=>∃ y,o=some y∧∃ l:By,y=((l,()),())∧l.length≤a.length+33) ?_
 unfold a5M
 obtain ⟨y,hy,d,rfl,hd⟩:=f2D b
 refine Wp.optF hy ?_
 have h0:(a2C ([]:By) a).length=a.length:=by rw [a9E]; show 0+_=_; omega
 have h1:∀ z:I .u8,(a2C (a2C ([]:By) a) [z]).length=a.length+1:=fun z=>by rw [a9E,h0]; rfl
 refine Wp.brnT (b3P (by show (a2C ([]:By) a).length≤_; rw [h0]; omega)) (Wp.brnT (b3P (by show (a2C (a2C ([]:By) a) [_]).length≤_; rw [h1]; omega)) (Wp.brnT (b4Q _ _ (by rw [h1]; show a.length+1+d.length≤_; omega)) ?_))
 refine ⟨_,rfl,_,rfl,?_⟩
 show (a2C (a2C (a2C ([]:By) a) [_]) d).length≤_
 rw [a9E,h1]
 omega
theorem e4D (a:By) (b:I .u64) (ha:a.length≤1000000000):∃ y,a5V K0 ((a,(b,())),())=some y∧∃ l:By,y=((l,()),())∧l.length≤a.length+33:=by
 refine Wp.out (T:=fun o=>∃ y,o=some y∧∃ l:By,y=((l,()),())∧l.length≤a.length+33) ?_
 unfold a5V
 obtain ⟨y,hy,d,rfl,hd⟩:=d8V a (b,((I.of .u64 0),((I.of .u64 0),((I.of .u64 0),())))) ha
 exact Wp.optF hy ⟨_,rfl,d,rfl,hd⟩
abbrev Msg:Type:=a0B
theorem d9A (m:Msg):Tot (a7F K0 ((m,()),())):=by
 refine Wp.out (T:=fun o=>Tot o) ?_
 unfold a7F
 have henc:∃ y,b1K K0 ((m,()),())=some y∧∃ l:By,y=((l,()),())∧l.length≤99:=by
  refine Wp.out (T:=fun o=>∃ y,o=some y∧∃ l:By,y=((l,()),())∧l.length≤99) ?_
  unfold b1K
  obtain ⟨y,hy,l0,rfl,h0⟩:=e4D [] m.1 (Nat.zero_le _)
  obtain ⟨y,hy1,l1,rfl,h1⟩:=e4D l0 m.2.1 (by have:l0.length≤0+33:=h0; omega)
  obtain ⟨y,hy2,l2,rfl,h2⟩:=d8V l1 m.2.2.1 (by have:l0.length≤0+33:=h0; omega)
  exact Wp.optF hy (Wp.optF hy1 (Wp.optF hy2 ⟨_,rfl,l2,rfl,by have:l0.length≤0+33:=h0; omega⟩))
 obtain ⟨y,hy,l,rfl,hl⟩:=henc
 exact Wp.optF hy (Wp.tot (f8F l (by omega)) fun y=>⟨_,rfl⟩)
theorem d9B (l:List Msg) (n:Nat) (hn:n≤l.length) (hl:l.length≤1073741824):∃ y,a8X K0 ((l,(i6 n,())),())=some y∧∃ o:List Hs,y=((o,()),())∧o.length=n:=by
 refine Wp.out (T:=fun o=>∃ y,o=some y∧∃ o:List Hs,y=((o,()),())∧o.length=n) ?_
 unfold a8X
 refine Wp.iter (fun x=>∃ (i:Nat) (o:List Hs),x=((l,(i6 n,(i6 i,()))),(o,()))∧i≤n∧o.length=i) (fun x=>n-x.1.2.2.1.val.toNat) ?_ ⟨0,[],rfl,by omega,rfl⟩ (by rw [a6Z]; show n-0<_; omega)
 rintro x ⟨i,o,rfl,hi,ho⟩
 simp only [a8H,b5U,a2L (show i<9223372036854775808 by omega) (show n<9223372036854775808 by omega),a3J (show i<9223372036854775808 by omega),a2K (show i+1<9223372036854775808 by omega)]
 refine Wp.brn (fun hc=>?_) (fun hc=>?_)
 ·
  have hc:=of_decide_eq_true hc
  refine Wp.brnT (a3H (by omega) (by omega)) (Wp.tot (d9A _) fun y1=>Wp.brnT (b4Q _ _ (by show o.length+1≤_; omega)) ?_)
  refine Wp.again ⟨i+1,_,rfl,by omega,?_⟩ ?_
  ·
   rw [a9E,ho]; rfl
  ·
   show n-(i6 (i+1)).val.toNat<n-(i6 i).val.toNat
   rw [a0Q (by omega),a0Q (by omega)]; omega
 ·
  have hc:=of_decide_eq_false hc
  exact Wp.done ⟨_,rfl,o,rfl,by omega⟩
theorem d6E (n:Nat) (h2:2≤n) (hn:n≤4611686018427387904):∃ k,a5K K0 ((i6 n,()),())=some ((i6 k,()),())∧1≤k∧k<n:=by
 refine Wp.out (T:=fun o=>∃ k,o=some ((i6 k,()),())∧1≤k∧k<n) ?_
 unfold a5K
 refine Wp.iter (fun x=>∃ k,x=((i6 n,(i6 k,())),())∧1≤k∧k<n) (fun x=>n-x.1.2.1.val.toNat) ?_ ⟨1,rfl,by omega,by omega⟩ (by rw [a6Z]; show n-1<_; omega)
 rintro x ⟨k,rfl,hk,hkn⟩
 have hs:I.sub (i6 n) (i6 k)=i6 (n-k):=c2V (by omega) (by omega)
 have hm:I.mul (I.of .i64 2) (i6 k)=i6 (2*k):=by
  apply I.ext'
  rw [c3M (by rw [a0Q (by omega),show (I.of .i64 2).val=2 from rfl]; omega),a0Q (by omega),a0Q (by omega),show (I.of .i64 2).val=2 from rfl]
  omega
 simp only [hs,hm,a2L (show k<9223372036854775808 by omega) (show n-k<9223372036854775808 by omega)]
 refine Wp.brn (fun hc=>?_) (fun hc=>Wp.done ⟨k,rfl,hk,hkn⟩)
 have hc:=of_decide_eq_true hc
 refine Wp.again ⟨2*k,rfl,by omega,by omega⟩ ?_
 show n-(i6 (2*k)).val.toNat<n-(i6 k).val.toNat
 rw [a0Q (by omega),a0Q (by omega)]; omega
theorem f1Y:∀ (k:Nat) (l:List Hs),l.length≤k→l.length≤1073741824→Tot (a3N K0 (k+1) ((l,()),())):=by
 intro k
 induction k with
 | zero =>
  intro l hl _
  have hl:l=[]:=List.eq_nil_of_length_eq_zero (by omega)
  subst hl
  refine Wp.out (T:=fun o=>Tot o) ?_
  show Wp _ (a7B K0 (a3N K0 _) _)
  unfold a7B
  exact Wp.brnT rfl (Wp.tot (e0X [] (Nat.zero_le _)) fun y=>⟨_,rfl⟩)
 | succ k ih =>
  intro l hl hb
  refine Wp.out (T:=fun o=>Tot o) ?_
  show Wp _ (a7B K0 (a3N K0 _) _)
  unfold a7B
  have e0:I.eqb (I.ofNat .i64 l.length) (I.of .i64 0)=decide (l.length=0):=e3H (m:=0) (by omega) (by omega)
  have e1:I.eqb (I.ofNat .i64 l.length) (I.of .i64 1)=decide (l.length=1):=e3H (m:=1) (by omega) (by omega)
  refine Wp.brn (fun h=>Wp.tot (e0X [] (Nat.zero_le _)) fun y=>⟨_,rfl⟩) (fun h=>?_)
  have h:I.eqb (I.ofNat .i64 l.length) (I.of .i64 0)=false:=h
  rw [e0] at h
  have h:=of_decide_eq_false h
  refine Wp.brn (fun h1=>?_) (fun h1=>?_)
  ·
   exact Wp.brnT (a3H (n:=0) (by show 0<l.length; omega) (by omega)) ⟨_,rfl⟩
  ·
   have h1:I.eqb (I.ofNat .i64 l.length) (I.of .i64 1)=false:=h1
   rw [e1] at h1
   have h1:=of_decide_eq_false h1
   obtain ⟨s,hs,s1,s2⟩:=d6E l.length (by omega) (by omega)
   refine Wp.optF hs ?_
   have hin:inB' (i6 s) l.length=true:=i6_inB' (by omega) (by omega)
   have l1:(a3T l 0 s).length=s:=by rw [c0P]; omega
   have l2:(a3T l s (l.length-s)).length=l.length-s:=by rw [c0P]; omega
   have n1:I.nat (i6 s)=s:=a3J (by omega)
   have r1:=ih (a3T l 0 s) (by omega) (by omega)
   have r2:=ih (a3T l s (l.length-s)) (by omega) (by omega)
   refine Wp.brnT hin (Wp.tot (by show Tot (a3N K0 (k+1) ((a3T l 0 (I.nat (i6 s)),()),())); rw [n1]; exact r1) fun y1=>Wp.brnT hin (Wp.tot (by show Tot (a3N K0 (k+1) ((a3T l (I.nat (i6 s)) (a0K l-I.nat (i6 s)),()),())); rw [n1]; exact r2) fun y2=>Wp.tot (e1E _ _) fun y3=>⟨_,rfl⟩))
theorem e7T (n:Nat) (h:n≤1000000000000):∃ k,K0=k+1∧n≤k:=⟨K0-1,by rw [a6Z],by rw [a6Z]; omega⟩
theorem d5M (l:List Hs) (hl:l.length≤1073741824):Tot (a5I K0 ((l,()),())):=by
 unfold a5I
 obtain ⟨k,e,hk⟩:=e7T l.length (by omega)
 have:=f1Y k l hk hl
 rw [← e] at this
 exact this
theorem f1V (l:List Msg) (hl:l.length≤1073741824):Tot (b0R K0 ((l,(i6 l.length,())),())):=by
 refine Wp.out (T:=fun o=>Tot o) ?_
 unfold b0R
 refine Wp.jn (fun x=>∃ h:Hs,x=((l,(i6 l.length,())),(h,()))) ?_ ?_
 ·
  rintro x ⟨h,rfl⟩
  obtain ⟨y,hy,o,rfl,ho⟩:=d9B l l.length (Nat.le_refl _) hl
  exact Wp.optF hy (Wp.tot (d5M o (by omega)) fun y=>⟨_,rfl⟩)
 ·
  intro j hj
  exact Wp.brn (fun _=>⟨_,rfl⟩) (fun _=>Wp.brn (fun _=>⟨_,rfl⟩) (fun _=>hj _ ⟨_,rfl⟩))
end Sym

/- Proofs of the reference: they end. -/
namespace Sym
open Go
theorem f8C:∀ (k:Nat) (l:List Hs) (i:I .i64),l.length≤k→l.length≤1073741824→∃ y,a3U K0 (k+1) ((l,(i,())),())=some y∧∃ o:List Hs,y=((),(o,()))∧o.length≤l.length:=by
 intro k
 induction k with
 | zero =>
  intro l i hl _
  have hl:l=[]:=List.eq_nil_of_length_eq_zero (by omega)
  subst hl
  refine Wp.out (T:=fun o=>∃ y,o=some y∧∃ o:List Hs,y=((),(o,()))∧o.length≤([]:List Hs).length) ?_
  show Wp _ (a7X K0 (a3U K0 _) _)
  unfold a7X
  exact Wp.brnT rfl ⟨_,rfl,[],rfl,Nat.le_refl _⟩
 | succ k ih =>
  intro l i hl hb
  refine Wp.out (T:=fun o=>∃ y,o=some y∧∃ o:List Hs,y=((),(o,()))∧o.length≤l.length) ?_
  show Wp _ (a7X K0 (a3U K0 _) _)
  unfold a7X
  have e2:I.ltb (I.ofNat .i64 l.length) (I.of .i64 2)=decide (l.length<2):=a2L (m:=2) (by omega) (by omega)
  refine Wp.brn (fun h=>⟨_,rfl,[],rfl,Nat.zero_le _⟩) (fun h=>?_)
  have h:I.ltb (I.ofNat .i64 l.length) (I.of .i64 2)=false:=h
  rw [e2] at h
  have h:=of_decide_eq_false h
  obtain ⟨s,hs,s1,s2⟩:=d6E l.length (by omega) (by omega)
  refine Wp.optF hs ?_
  have hin:inB' (i6 s) l.length=true:=i6_inB' (by omega) (by omega)
  have l1:(a3T l 0 s).length=s:=by rw [c0P]; omega
  have l2:(a3T l s (l.length-s)).length=l.length-s:=by rw [c0P]; omega
  have n1:I.nat (i6 s)=s:=a3J (by omega)
  refine Wp.brn (fun _=>?_) (fun _=>?_)
  ·
   refine Wp.brnT hin ?_
   obtain ⟨y,hy,o,rfl,ho⟩:=ih (a3T l 0 s) i (by omega) (by omega)
   have r2:=d5M (a3T l s (l.length-s)) (by omega)
   refine Wp.optF (y:=((),(o,()))) (by show a3U K0 (k+1) ((a3T l 0 (I.nat (i6 s)),(i,())),())=_; rw [n1]; exact hy) (Wp.brnT hin (Wp.tot (by show Tot (a5I K0 ((a3T l (I.nat (i6 s)) (a0K l-I.nat (i6 s)),()),())); rw [n1]; exact r2) fun y2=>Wp.brnT (b4Q _ _ (by show o.length+1≤_; omega)) ⟨_,rfl,_,rfl,?_⟩))
   show (a2C o [_]).length≤_
   rw [a9E]
   show o.length+1≤_
   omega
  ·
   refine Wp.brnT hin ?_
   obtain ⟨y,hy,o,rfl,ho⟩:=ih (a3T l s (l.length-s)) (I.sub i (i6 s)) (by omega) (by omega)
   have r2:=d5M (a3T l 0 s) (by omega)
   refine Wp.optF (y:=((),(o,()))) (by show a3U K0 (k+1) ((a3T l (I.nat (i6 s)) (a0K l-I.nat (i6 s)),(I.sub i (i6 s),())),())=_; rw [n1]; exact hy) (Wp.brnT hin (Wp.tot (by show Tot (a5I K0 ((a3T l 0 (I.nat (i6 s)),()),())); rw [n1]; exact r2) fun y2=>Wp.brnT (b4Q _ _ (by show o.length+1≤_; omega)) ⟨_,rfl,_,rfl,?_⟩))
   show (a2C o [_]).length≤_
   rw [a9E]
   show o.length+1≤_
   omega
theorem f2E (l:List Hs) (i:I .i64) (hl:l.length≤1073741824):∃ y,b3R K0 ((l,(i,())),())=some y∧∃ o:List Hs,y=((),(o,()))∧o.length≤l.length:=by
 unfold b3R
 obtain ⟨k,e,hk⟩:=e7T l.length (by omega)
 have:=f8C k l i hk hl
 rw [← e] at this
 exact this
theorem e7V (l:List Msg) (i:I .i64) (n:Nat) (hn:n<9223372036854775808) (hl:l.length≤1073741824):∃ y,b3A K0 ((l,(i,(i6 n,()))),())=some y∧∃ (b:Bool) (o:List Hs),y=((b,()),(o,()))∧o.length≤l.length:=by
 refine Wp.out (T:=fun o=>∃ y,o=some y∧∃ (b:Bool) (o:List Hs),y=((b,()),(o,()))∧o.length≤l.length) ?_
 unfold b3A
 refine Wp.jn (fun x=>n≤l.length∧x=((l,(i,(i6 n,()))),())) ?_ ?_
 ·
  rintro x ⟨hn,rfl⟩
  obtain ⟨y,hy,o,rfl,ho⟩:=d9B l n hn hl
  obtain ⟨y,hy2,p,rfl,hp⟩:=f2E o i (by omega)
  exact Wp.optF hy (Wp.optF hy2 ⟨_,rfl,_,p,rfl,by omega⟩)
 ·
  intro j hj
  refine Wp.brn (fun _=>⟨_,rfl,_,[],rfl,Nat.zero_le _⟩) (fun _=>Wp.brn (fun _=>⟨_,rfl,_,[],rfl,Nat.zero_le _⟩) (fun _=>Wp.brn (fun _=>⟨_,rfl,_,[],rfl,Nat.zero_le _⟩) (fun h=>hj _ ⟨?_,rfl⟩)))
  have h:I.ltb (I.ofNat .i64 l.length) (i6 n)=false:=h
  have e:I.ltb (I.ofNat .i64 l.length) (i6 n)=decide (l.length<n):=a2L (by omega) hn
  rw [e] at h
  have:=of_decide_eq_false h
  omega
theorem g9O:∀ (k n:Nat) (i:I .i64) (h:Hs) (p:List Hs),p.length≤k→p.length≤1073741824→1≤n→n≤1073741824→Tot (a5G K0 (k+1) ((i6 n,(i,(h,(p,())))),())):=by
 intro k
 induction k with
 | zero =>
  intro n i h p hp _ _ _
  have hl:p=[]:=List.eq_nil_of_length_eq_zero (by omega)
  subst hl
  refine Wp.out (T:=fun o=>Tot o) ?_
  show Wp _ (a9X K0 (a5G K0 _) _)
  unfold a9X
  exact Wp.brn (fun _=>⟨_,rfl⟩) (fun _=>Wp.brnT rfl ⟨_,rfl⟩)
 | succ k ih =>
  intro n i h p hp hb hn hn2
  refine Wp.out (T:=fun o=>Tot o) ?_
  show Wp _ (a9X K0 (a5G K0 _) _)
  unfold a9X
  refine Wp.brn (fun _=>⟨_,rfl⟩) (fun hn1=>?_)
  have hn1:I.eqb (i6 n) (I.of .i64 1)=false:=hn1
  have e1:I.eqb (i6 n) (I.of .i64 1)=decide (n=1):=e3H (m:=1) (by omega) (by omega)
  rw [e1] at hn1
  have hn1:=of_decide_eq_false hn1
  refine Wp.brn (fun _=>⟨_,rfl⟩) (fun hp0=>?_)
  have hp0:I.eqb (I.ofNat .i64 p.length) (I.of .i64 0)=false:=hp0
  have e0:I.eqb (I.ofNat .i64 p.length) (I.of .i64 0)=decide (p.length=0):=e3H (m:=0) (by omega) (by omega)
  rw [e0] at hp0
  have hp0:=of_decide_eq_false hp0
  have hs:I.sub (I.ofNat .i64 (a0K p)) (I.of .i64 1)=i6 (p.length-1):=c2V (n:=p.length) (m:=1) (by omega) (by omega)
  have n1:I.nat (i6 (p.length-1))=p.length-1:=a3J (by omega)
  have lp:(a3T p 0 (p.length-1)).length=p.length-1:=by rw [c0P]; omega
  have hin:inB (I.sub (I.ofNat .i64 (a0K p)) (I.of .i64 1)) (a0K p)=true:=by rw [hs]; exact a3H (by show p.length-1<p.length; omega) (by omega)
  have hin':inB' (I.sub (I.ofNat .i64 (a0K p)) (I.of .i64 1)) (a0K p)=true:=by rw [hs]; exact i6_inB' (by show p.length-1≤p.length; omega) (by omega)
  refine Wp.brnT hin ?_
  obtain ⟨s,hsp,s1,s2⟩:=d6E n (by omega) (by omega)
  refine Wp.optF hsp ?_
  have hss:I.sub (i6 n) (i6 s)=i6 (n-s):=c2V (by omega) (by omega)
  refine Wp.brn (fun _=>Wp.brnT hin' ?_) (fun _=>Wp.brnT hin' ?_)
  ·
   have r:=ih s i h (a3T p 0 (p.length-1)) (by omega) (by omega) (by omega) (by omega)
   refine Wp.tot (by show Tot (a5G K0 (k+1) ((i6 s,(i,(h,(a3T p 0 (I.nat (I.sub (I.ofNat .i64 (a0K p)) (I.of .i64 1))),())))),())); rw [hs,n1]; exact r) fun y1=>Wp.tot (e1E _ _) fun y2=>⟨_,rfl⟩
  ·
   have r:=ih (n-s) (I.sub i (i6 s)) h (a3T p 0 (p.length-1)) (by omega) (by omega) (by omega) (by omega)
   refine Wp.tot (by show Tot (a5G K0 (k+1) ((I.sub (i6 n) (i6 s),(I.sub i (i6 s),(h,(a3T p 0 (I.nat (I.sub (I.ofNat .i64 (a0K p)) (I.of .i64 1))),())))),())); rw [hs,n1,hss]; exact r) fun y1=>Wp.tot (e1E _ _) fun y2=>⟨_,rfl⟩
theorem f3F (root:Hs) (n:Nat) (i:I .i64) (leaf:Hs) (p:List Hs) (hn:1≤n) (hn2:n≤1073741824) (hp:p.length≤1073741824):Tot (a8A K0 ((root,(i6 n,(i,(leaf,(p,()))))),())):=by
 refine Wp.out (T:=fun o=>Tot o) ?_
 unfold a8A
 refine Wp.jn (fun x=>x=((i6 n,(i,(p,()))),(root,(leaf,())))) ?_ ?_
 ·
  rintro x rfl
  have hu:Tot (b8J K0 ((i6 n,(i,(leaf,(p,())))),())):=by
   unfold b8J
   obtain ⟨k,e,hk⟩:=e7T p.length (by omega)
   have:=g9O k n i leaf p hk hp hn hn2
   rw [← e] at this
   exact this
  exact Wp.tot hu fun y1=>Wp.brn (fun _=>⟨_,rfl⟩) (fun _=>⟨_,rfl⟩)
 ·
  intro j hj
  exact Wp.brn (fun _=>⟨_,rfl⟩) (fun _=>Wp.brn (fun _=>⟨_,rfl⟩) (fun _=>Wp.brn (fun _=>⟨_,rfl⟩) (fun _=>hj _ rfl)))
end Sym

/- The escrow of the reference, and what else a step calls. -/
namespace Sym
open Go
theorem Tot.val {Y:Type} {o:Option Y} (h:Tot o) (d:Y):o=some (o.getD d):=by
 obtain ⟨y,rfl⟩:=h
 rfl
theorem g0Z (l:List Ac) (v:V4) (k:Nat) (hk:k<4):a7N K0 (((l,(v,())),(i6 (k+1),())),())=some ((f3J v k,()),()):=by
 refine Wp.out (T:=fun o=>o=some ((f3J v k,()),())) ?_
 unfold a7N
 have hsub:I.sub (i6 (k+1)) (I.of .i64 1)=i6 k:=by rw [b5U,c2V (by omega) (by omega)]; rfl
 refine Wp.brnF (niff_ltb.2 (by show (I.of .i64 1).val≤(i6 (k+1)).val; rw [a0Q (by omega),show (I.of .i64 1).val=1 from rfl]; omega)) ?_
 refine Wp.brnF (niff_ltb.2 (by show (i6 (k+1)).val≤(I.of .i64 4).val; rw [a0Q (by omega),show (I.of .i64 4).val=4 from rfl]; omega)) ?_
 refine Wp.brnT (by show inB (I.sub (i6 (k+1)) (I.of .i64 1)) 4=true; rw [hsub]; exact a3H hk (by omega)) ?_
 show some ((Arr.sel Z_U 4 v (I.nat (I.sub (i6 (k+1)) (I.of .i64 1))),()),())=_
 rw [hsub,a3J (by omega)]
 rfl
noncomputable def g0F (v:V4) (k:Nat) (n:U):I .i64×V4 :=
 if n.val≤(f3J v k).val then (I.of .i64 0,h8C v k (U.of ((f3J v k).val-n.val))) else (I.of .i64 10,v)
theorem h1M (v:V4) (l:List Ac) (k:Nat) (hk:k<4) (n:U):a4H K0 ((i6 (k+1),(n,())),(lgH v,(l,())))=some (((g0F v k n).1,()),(lgH (g0F v k n).2,(l,()))):=by
 refine Wp.out (T:=fun o=>o=some (((g0F v k n).1,()),(lgH (g0F v k n).2,(l,())))) ?_
 unfold a4H g0F
 have hsub:I.sub (i6 (k+1)) (I.of .i64 1)=i6 k:=by rw [b5U,c2V (by omega) (by omega)]; rfl
 have hin:inB (I.sub (i6 (k+1)) (I.of .i64 1)) 4=true:=by rw [hsub]; exact a3H hk (by omega)
 refine Wp.jn (fun x=>x=((i6 (k+1),()),(lgH v,(l,(n,()))))) ?_ ?_
 ·
  rintro x rfl
  refine Wp.brnT hin ?_
  simp only [hsub,a3J (show k<9223372036854775808 by omega)]
  refine Wp.optF (c4G (f3J v k) n) ?_
  unfold f4J
  by_cases h:n.val≤(f3J v k).val
  ·
   simp only [if_pos h]
   exact Wp.brnF (show I.neb (I.of .i64 0) (I.of .i64 0)=false by decide) (Wp.brnT (a3H hk (by omega)) rfl)
  ·
   simp only [if_neg h]
   exact Wp.brnT (show I.neb (I.of .i64 4) (I.of .i64 0)=true by decide) rfl
 ·
  intro j hj
  refine Wp.brnF (niff_ltb.2 (by show (I.of .i64 1).val≤(i6 (k+1)).val; rw [a0Q (by omega),show (I.of .i64 1).val=1 from rfl]; omega)) ?_
  refine Wp.brnF (niff_ltb.2 (by show (i6 (k+1)).val≤(I.of .i64 4).val; rw [a0Q (by omega),show (I.of .i64 4).val=4 from rfl]; omega)) ?_
  exact hj _ rfl
abbrev EsH:Type:=a0T
def esH (b:U):EsH:=(b,((),((),((),()))))
noncomputable def g9A (b n:U):I .i64×U :=
 if n.val=0 then (I.of .i64 2,b) else if b.val+n.val<U.top then (I.of .i64 0,U.of (b.val+n.val)) else (I.of .i64 4,b)
theorem h0M (b n:U) (r:List Hs) (cl:List (I .u64)) (ba:List Pay):a6J K0 ((n,()),(esH b,(r,(cl,(ba,())))))=some (((g9A b n).1,()),(esH (g9A b n).2,(r,(cl,(ba,()))))):=by
 refine Wp.out (T:=fun o=>o=some (((g9A b n).1,()),(esH (g9A b n).2,(r,(cl,(ba,())))))) ?_
 unfold a6J g9A
 refine Wp.optF (c4K n) ?_
 refine Wp.brn (fun h=>?_) (fun h=>?_)
 ·
  rw [if_pos (of_decide_eq_true h)]
  rfl
 ·
  rw [if_neg (of_decide_eq_false h)]
  refine Wp.optF (d2U b n) ?_
  by_cases hc:b.val+n.val<U.top
  ·
   rw [if_pos hc,d0C hc]
   exact Wp.brnF (show I.neb (I.of .i64 0) (I.of .i64 0)=false by decide) rfl
  ·
   rw [if_neg hc,e1A (by omega)]
   exact Wp.brnT (show I.neb (I.of .i64 4) (I.of .i64 0)=true by decide) rfl
def clB (l:List (I .u64)) (a:I .u64):Bool:=l.any fun p=>I.eqb p a
theorem f2N (b:U) (r:List Hs) (cl:List (I .u64)) (ba:List Pay) (a:I .u64) (hl:cl.length≤1073741824):a6G K0 (((b,(r,(cl,(ba,())))),(a,())),())=some ((clB cl a,()),()):=by
 refine Wp.out (T:=fun o=>o=some ((clB cl a,()),())) ?_
 unfold a6G
 refine Wp.iter (fun s=>∃ i,s=(((b,(r,(cl,(ba,())))),(a,(i6 i,()))),())∧i≤cl.length∧∀ k,k<i→I.eqb (rdL (I.of .u64 0) cl k) a=false) (fun s=>cl.length-s.1.2.2.1.val.toNat) ?_ ⟨0,rfl,by omega,fun k hk=>by omega⟩ (by rw [a6Z]; show cl.length-0<_; omega)
 rintro s ⟨i,rfl,hi,ht⟩
 simp only [a8H,a5Y,b5U,a2L (show i<9223372036854775808 by omega) (show cl.length<9223372036854775808 by omega),a3J (show i<9223372036854775808 by omega),a2K (show i+1<9223372036854775808 by omega)]
 refine Wp.brn (fun hc=>?_) (fun hc=>?_)
 ·
  have hc:=of_decide_eq_true hc
  refine Wp.brnT (a3H (by omega) (by omega)) ?_
  refine Wp.brn (fun h=>?_) (fun h=>?_)
  ·
   refine Wp.done ?_
   have:clB cl a=true:=List.any_eq_true.2 ⟨_,c3L (I.of .u64 0) cl i hc,h⟩
   rw [this]
   rfl
  ·
   refine Wp.again ⟨i+1,rfl,by omega,fun k hk=>?_⟩ (by show cl.length-(i6 (i+1)).val.toNat<cl.length-(i6 i).val.toNat; rw [a0Q (by omega),a0Q (by omega)]; omega)
   rcases (by omega:k<i∨k=i) with h3 | rfl
   ·
    exact ht k h3
   ·
    exact h
 ·
  have hc:=of_decide_eq_false hc
  refine Wp.done ?_
  have:clB cl a=false:=by
   rw [clB,List.any_eq_false]
   intro x hx
   obtain ⟨k,hk,rfl⟩:=c7O (I.of .u64 0) hx
   rw [ht k (by omega)]
   decide
  rw [this]
  rfl
noncomputable abbrev d7Z:Pay:=a3G
def pAt (l:List Pay) (a:I .u64):Nat:=l.findIdx fun p=>I.eqb p.1 a
theorem g4V {l:List Pay} {a:I .u64} {i:Nat} (hi:i<l.length) (h1:I.eqb (rdL d7Z l i).1 a=true) (h2:∀ k,k<i→I.eqb (rdL d7Z l k).1 a=false):pAt l a=i:=by
 unfold pAt
 rw [List.findIdx_eq hi]
 refine ⟨by rw [← a3Y d7Z l i hi]; exact h1,fun k hk=>?_⟩
 rw [← a3Y d7Z l k (by omega)]
 exact h2 k hk
theorem f0R {l:List Pay} {a:I .u64} (h2:∀ k,k<l.length→I.eqb (rdL d7Z l k).1 a=false):pAt l a=l.length:=by
 unfold pAt
 rw [List.findIdx_eq_length]
 intro x hx
 obtain ⟨k,hk,rfl⟩:=c7O d7Z hx
 exact h2 k hk
noncomputable def g2J (l:List Pay) (a:I .u64):U:=if pAt l a<l.length then (rdL d7Z l (pAt l a)).2.1 else Z_U
noncomputable def g5G (l:List Pay) (a:I .u64) (n:U):List Pay:=if pAt l a<l.length then b9T l (pAt l a) ((rdL d7Z l (pAt l a)).1,(n,(rdL d7Z l (pAt l a)).2.2)) else l++[(a,(n,()))]
theorem g9K (b:U) (r:List Hs) (cl:List (I .u64)) (ba:List Pay) (a:I .u64) (hl:ba.length≤1073741824):a5N K0 (((b,(r,(cl,(ba,())))),(a,())),())=some ((g2J ba a,()),()):=by
 refine Wp.out (T:=fun o=>o=some ((g2J ba a,()),())) ?_
 unfold a5N
 refine Wp.iter (fun s=>∃ i,s=(((b,(r,(cl,(ba,())))),(a,(i6 i,()))),(Z_U,()))∧i≤ba.length∧∀ k,k<i→I.eqb (rdL d7Z ba k).1 a=false) (fun s=>ba.length-s.1.2.2.1.val.toNat) ?_ ⟨0,rfl,by omega,fun k hk=>by omega⟩ (by rw [a6Z]; show ba.length-0<_; omega)
 rintro s ⟨i,rfl,hi,ht⟩
 simp only [a8H,a5Y,b5U,a2L (show i<9223372036854775808 by omega) (show ba.length<9223372036854775808 by omega),a3J (show i<9223372036854775808 by omega),a2K (show i+1<9223372036854775808 by omega)]
 refine Wp.brn (fun hc=>?_) (fun hc=>?_)
 ·
  have hc:=of_decide_eq_true hc
  have hin:inB (i6 i) ba.length=true:=a3H (by omega) (by omega)
  refine Wp.brnT hin ?_
  refine Wp.brn (fun h=>?_) (fun h=>?_)
  ·
   refine Wp.brnT hin (Wp.done ?_)
   unfold g2J
   rw [g4V hc h ht,if_pos hc]
   rfl
  ·
   refine Wp.again ⟨i+1,rfl,by omega,fun k hk=>?_⟩ (by show ba.length-(i6 (i+1)).val.toNat<ba.length-(i6 i).val.toNat; rw [a0Q (by omega),a0Q (by omega)]; omega)
   rcases (by omega:k<i∨k=i) with h3 | rfl
   ·
    exact ht k h3
   ·
    exact h
 ·
  have hc:=of_decide_eq_false hc
  refine Wp.done ?_
  unfold g2J
  rw [f0R fun k hk=>ht k (by omega),if_neg (by omega)]
  rfl
theorem f6A (a b:I .u64):Tot (a9Q K0 ((a,(b,())),())):=by
 refine Wp.out (T:=fun o=>Tot o) ?_
 unfold a9Q
 obtain ⟨r0,e0,B0⟩:=a1N a
 obtain ⟨r1,e1,B1⟩:=a1N b
 obtain ⟨r2,e2,B2⟩:=b3H B0 B1 (e3E B0) (e3E B1)
 have h:=a3A a
 have h':=a3A b
 have e3:=c7L B2 (b4X B2 (k:=5) (Nat.lt_of_lt_of_le (show a.nat+b.nat<36893488147419103232 by omega) (by decide)) (by decide))
 refine Wp.optF e0 (Wp.optF e1 (Wp.optF e2 (Wp.optF e3 (Wp.optF (d7J _) ?_))))
 exact Wp.brn (fun _=>⟨_,rfl⟩) (fun _=>⟨_,rfl⟩)
end Sym

/- Claims and parameters of the reference. -/
namespace Sym
open Go
abbrev Clm:Type:=a8I
noncomputable def vfB (root:Hs) (n:Nat) (i:I .i64) (leaf:Hs) (p:List Hs):Bool:=((a8A K0 ((root,(i6 n,(i,(leaf,(p,()))))),())).getD ((false,()),())).1.1
noncomputable def lfS (m:Msg):Hs:=((a7F K0 ((m,()),())).getD ((a1X,()),())).1.1
theorem h4M (m:Msg):a7F K0 ((m,()),())=some ((lfS m,()),()):=(d9A m).val ((a1X,()),())
theorem h3H (root:Hs) (n:Nat) (i:I .i64) (leaf:Hs) (p:List Hs) (hn:1≤n) (hn2:n≤1073741824) (hp:p.length≤1073741824):a8A K0 ((root,(i6 n,(i,(leaf,(p,()))))),())=some ((vfB root n i leaf p,()),()):=(f3F root n i leaf p hn hn2 hp).val ((false,()),())
abbrev ClR:Type:=I .i64×U×List (I .u64)×List Pay
def d4F (c:Clm):I .u64:=c.1
def b3S (c:Clm):I .u64:=c.2.1
def cTo (c:Clm):I .u64:=c.2.2.1
def d4Z (c:Clm):U:=c.2.2.2.1
def d8B (c:Clm):List Hs:=c.2.2.2.2.1
noncomputable def d4R (b:U) (r:List Hs) (cl:List (I .u64)) (ba:List Pay) (c:Clm):ClR :=
 if (cTo c).val=0∨(d4Z c).val=0∨64<(d8B c).length then (I.of .i64 2,b,cl,ba)
 else if (b3S c).nat<1∨r.length<(b3S c).nat∨(b3S c).nat≤(d4F c).nat then (I.of .i64 8,b,cl,ba)
 else if clB cl (d4F c)=true then (I.of .i64 9,b,cl,ba)
 else if vfB (rdL a1X r ((b3S c).nat-1)) (b3S c).nat (I.conv .i64 (d4F c)) (lfS (d4F c,(cTo c,(d4Z c,())))) (d8B c)=false then (I.of .i64 16,b,cl,ba)
 else if b.val<(d4Z c).val then (I.of .i64 10,b,cl,ba)
 else if (g2J ba (cTo c)).val+(d4Z c).val<U.top then (I.of .i64 0,U.of (b.val-(d4Z c).val),cl++[d4F c],g5G ba (cTo c) (U.of ((g2J ba (cTo c)).val+(d4Z c).val)))
 else (I.of .i64 4,b,cl,ba)
theorem f9N {n:Nat} (h:n<9223372036854775808):(I.conv (k:=.i64) .u64 (i6 n))=I.of .u64 (n:Int):=by
 unfold I.conv
 rw [a0Q h]
theorem g7J {a:I .u64} (h:a.nat<9223372036854775808):(I.conv (k:=.u64) .i64 a)=i6 a.nat:=by
 unfold I.conv
 have:=a2G a
 rw [← this]
 rfl
theorem e0Y {a b:I .u64}:I.ltb a b=decide (a.nat<b.nat):=by
 have h1:=a2G a
 have h2:=a2G b
 unfold I.ltb
 by_cases h:a.nat<b.nat
 ·
  rw [decide_eq_true h,decide_eq_true (by omega)]
 ·
  rw [decide_eq_false h,decide_eq_false (by omega)]
theorem f5C {a b:I .u64}:I.leb a b=decide (a.nat≤b.nat):=by
 have h1:=a2G a
 have h2:=a2G b
 unfold I.leb
 by_cases h:a.nat≤b.nat
 ·
  rw [decide_eq_true h,decide_eq_true (by omega)]
 ·
  rw [decide_eq_false h,decide_eq_false (by omega)]
theorem g1R (b:U) (r:List Hs) (cl:List (I .u64)) (ba:List Pay) (c:Clm) (hr:r.length≤1073741824) (hcl:cl.length<1073741824) (hba:ba.length<1073741824) (hpf:(d8B c).length≤1073741824) :
  a7L K0 ((c,()),(esH b,(r,(cl,(ba,())))))=some (((d4R b r cl ba c).1,()),(esH (d4R b r cl ba c).2.1,(r,((d4R b r cl ba c).2.2.1,((d4R b r cl ba c).2.2.2,()))))):=by
 refine Wp.out (T:=fun o=>o=some (((d4R b r cl ba c).1,()),(esH (d4R b r cl ba c).2.1,(r,((d4R b r cl ba c).2.2.1,((d4R b r cl ba c).2.2.2,())))))) ?_
 unfold a7L
 have hrl:(I.conv (k:=.i64) .u64 (I.ofNat .i64 (a0K r))).nat=r.length:=by
  show (I.conv (k:=.i64) .u64 (i6 r.length)).nat=_
  rw [f9N (by omega)]
  exact b7N (by omega)
 refine Wp.jn (fun x=>(¬ ((cTo c).val=0∨(d4Z c).val=0∨64<(d8B c).length))∧x=((),(esH b,(r,(cl,(ba,(c,()))))))) ?_ ?_
 ·
  rintro x ⟨h1,rfl⟩
  refine Wp.jn (fun x=>(¬ ((b3S c).nat<1∨r.length<(b3S c).nat∨(b3S c).nat≤(d4F c).nat))∧x=((),(esH b,(r,(cl,(ba,(c,()))))))) ?_ ?_
  ·
   rintro x ⟨h2,rfl⟩
   unfold d4R
   rw [if_neg h1,if_neg h2]
   refine Wp.optF (f2N b r cl ba (d4F c) (by omega)) ?_
   refine Wp.brn (fun h3=>?_) (fun h3=>?_)
   ·
    have h3:clB cl (d4F c)=true:=h3
    rw [if_pos h3]
    rfl
   ·
    have h3:clB cl (d4F c)=false:=h3
    rw [if_neg (by rw [h3]; decide)]
    have hs1:(I.sub (b3S c) (I.of .u64 1)).nat=(b3S c).nat-1:=sub_nat_le' _ _ (by show (I.of .u64 1).nat≤_; rw [show (I.of .u64 1).nat=1 from rfl]; omega)
    refine Wp.brnT (iff_inB.2 (by have:=a2G (I.sub (b3S c) (I.of .u64 1)); show 0≤(I.sub (b3S c) (I.of .u64 1)).val∧(I.sub (b3S c) (I.of .u64 1)).val<((r.length:Nat):Int); omega)) ?_
    refine Wp.optF (h4M (d4F c,(cTo c,(d4Z c,())))) ?_
    have hv:=h3H (rdL a1X r ((b3S c).nat-1)) (b3S c).nat (I.conv .i64 (d4F c)) (lfS (d4F c,(cTo c,(d4Z c,())))) (d8B c) (by omega) (by omega) (by omega)
    rw [← hs1,← g7J (a:=b3S c) (by omega)] at hv
    refine Wp.optF hv ?_
    rw [hs1]
    refine Wp.brn (fun h4=>?_) (fun h4=>?_)
    ·
     have h4:vfB (rdL a1X r ((b3S c).nat-1)) (b3S c).nat (I.conv .i64 (d4F c)) (lfS (d4F c,(cTo c,(d4Z c,())))) (d8B c)=false:=by
      revert h4
      show a6O (vfB _ _ _ _ _)=true→_
      cases vfB (rdL a1X r ((b3S c).nat-1)) (b3S c).nat (I.conv .i64 (d4F c)) (lfS (d4F c,(cTo c,(d4Z c,())))) (d8B c)<;>simp [a6O]
     rw [if_pos h4]
     rfl
    ·
     have h4:vfB (rdL a1X r ((b3S c).nat-1)) (b3S c).nat (I.conv .i64 (d4F c)) (lfS (d4F c,(cTo c,(d4Z c,())))) (d8B c)=true:=by
      revert h4
      show a6O (vfB _ _ _ _ _)=false→_
      cases vfB (rdL a1X r ((b3S c).nat-1)) (b3S c).nat (I.conv .i64 (d4F c)) (lfS (d4F c,(cTo c,(d4Z c,())))) (d8B c)<;>simp [a6O]
     rw [if_neg (by rw [h4]; decide)]
     refine Wp.optF (c4G b (d4Z c)) ?_
     unfold f4J
     by_cases h5:(d4Z c).val≤b.val
     ·
      rw [if_neg (show ¬ b.val<(d4Z c).val by omega)]
      simp only [if_pos h5]
      refine Wp.brnF (show I.neb (I.of .i64 0) (I.of .i64 0)=false by decide) ?_
      refine Wp.optF (g9K b r cl ba (cTo c) (by omega)) (Wp.optF (d2U (g2J ba (cTo c)) (d4Z c)) ?_)
      by_cases h6:(g2J ba (cTo c)).val+(d4Z c).val<U.top
      ·
       rw [if_pos h6,d0C h6]
       refine Wp.brnF (show I.neb (I.of .i64 0) (I.of .i64 0)=false by decide) ?_
       refine Wp.brnT (b4Q _ _ (by show cl.length+1≤_; omega)) ?_
       generalize U.of ((g2J ba (cTo c)).val+(d4Z c).val)=n
       refine Wp.iter (fun s=>∃ i,s=((i6 i,()),(esH (U.of (b.val-(d4Z c).val)),(r,(cl++[d4F c],(ba,(c,(n,())))))))∧i≤ba.length∧∀ k,k<i→I.eqb (rdL d7Z ba k).1 (cTo c)=false) (fun s=>ba.length-s.1.1.val.toNat) ?_ ⟨0,rfl,by omega,fun k hk=>by omega⟩ (by rw [a6Z]; show ba.length-0<_; omega)
       rintro s ⟨i,rfl,hi,ht⟩
       simp only [a8H,a5Y,b5U,a2L (show i<9223372036854775808 by omega) (show ba.length<9223372036854775808 by omega),a3J (show i<9223372036854775808 by omega),a2K (show i+1<9223372036854775808 by omega)]
       refine Wp.brn (fun hc=>?_) (fun hc=>?_)
       ·
        have hc:=of_decide_eq_true hc
        have hin:inB (i6 i) ba.length=true:=a3H (by omega) (by omega)
        refine Wp.brnT hin ?_
        refine Wp.brn (fun h=>?_) (fun h=>?_)
        ·
         refine Wp.brnT hin (Wp.done ?_)
         have e:g5G ba (cTo c) n=b9T ba i ((rdL d7Z ba i).1,(n,(rdL d7Z ba i).2.2)):=by
          unfold g5G
          rw [g4V (a:=cTo c) hc h ht,if_pos hc]
         show some _=some _
         rw [e]
         rfl
        ·
         refine Wp.again ⟨i+1,rfl,by omega,fun k hk=>?_⟩ (by show ba.length-(i6 (i+1)).val.toNat<ba.length-(i6 i).val.toNat; rw [a0Q (by omega),a0Q (by omega)]; omega)
         rcases (by omega:k<i∨k=i) with h3 | rfl
         ·
          exact ht k h3
         ·
          exact h
       ·
        have hc:=of_decide_eq_false hc
        refine Wp.done (Wp.brnT (b4Q _ _ (by show ba.length+1≤_; omega)) ?_)
        have e:g5G ba (cTo c) n=ba++[(cTo c,(n,()))]:=by
         unfold g5G
         rw [f0R fun k hk=>ht k (by omega),if_neg (by omega)]
        show some _=some _
        rw [e]
        rfl
      ·
       rw [if_neg h6,e1A (by omega)]
       exact Wp.brnT (show I.neb (I.of .i64 4) (I.of .i64 0)=true by decide) rfl
     ·
      rw [if_pos (show b.val<(d4Z c).val by omega)]
      simp only [if_neg h5]
      exact Wp.brnT (show I.neb (I.of .i64 4) (I.of .i64 0)=true by decide) rfl
  ·
   intro j hj
   have e8:d4R b r cl ba c=(if (b3S c).nat<1∨r.length<(b3S c).nat∨(b3S c).nat≤(d4F c).nat then (I.of .i64 8,b,cl,ba) else d4R b r cl ba c):=by
    split
    ·
     rename_i h
     unfold d4R
     rw [if_neg h1,if_pos h]
    ·
     rfl
   refine Wp.brn (fun h=>?_) (fun h=>?_)
   ·
    have h:I.ltb (b3S c) (I.of .u64 1)=true:=h
    rw [e0Y] at h
    have h:=of_decide_eq_true h
    rw [e8,if_pos (.inl h)]
    rfl
   ·
    have h:I.ltb (b3S c) (I.of .u64 1)=false:=h
    rw [e0Y] at h
    have h:¬ (b3S c).nat<1:=of_decide_eq_false h
    refine Wp.brn (fun g=>?_) (fun g=>?_)
    ·
     have g:I.ltb (I.conv (k:=.i64) .u64 (I.ofNat .i64 (a0K r))) (b3S c)=true:=g
     rw [e0Y,hrl] at g
     have g:=of_decide_eq_true g
     rw [e8,if_pos (.inr (.inl g))]
     rfl
    ·
     have g:I.ltb (I.conv (k:=.i64) .u64 (I.ofNat .i64 (a0K r))) (b3S c)=false:=g
     rw [e0Y,hrl] at g
     have g:=of_decide_eq_false g
     refine Wp.brn (fun q=>?_) (fun q=>?_)
     ·
      have q:I.leb (b3S c) (d4F c)=true:=q
      rw [f5C] at q
      have q:=of_decide_eq_true q
      rw [e8,if_pos (.inr (.inr q))]
      rfl
     ·
      have q:I.leb (b3S c) (d4F c)=false:=q
      rw [f5C] at q
      have q:=of_decide_eq_false q
      exact hj _ ⟨by omega,rfl⟩
 ·
  intro j hj
  have e2:d4R b r cl ba c=(if (cTo c).val=0∨(d4Z c).val=0∨64<(d8B c).length then (I.of .i64 2,b,cl,ba) else d4R b r cl ba c):=by
   split
   ·
    rename_i h
    unfold d4R
    rw [if_pos h]
   ·
    rfl
  refine Wp.brn (fun h=>?_) (fun h=>?_)
  ·
   have h:(cTo c).val=0:=iff_eqb.1 h
   rw [e2,if_pos (.inl h)]
   rfl
  ·
   have h:(cTo c).val≠0:=niff_eqb.1 h
   refine Wp.optF (c4K (d4Z c)) ?_
   refine Wp.brn (fun g=>?_) (fun g=>?_)
   ·
    have g:=of_decide_eq_true g
    rw [e2,if_pos (.inr (.inl g))]
    rfl
   ·
    have g:=of_decide_eq_false g
    have e:I.ltb (I.of .i64 64) (I.ofNat .i64 (a0K (d8B c)))=decide (64<(d8B c).length):=a2L (n:=64) (by omega) (by show (d8B c).length<_; omega)
    refine Wp.brn (fun q=>?_) (fun q=>?_)
    ·
     have q:I.ltb (I.of .i64 64) (I.ofNat .i64 (a0K (d8B c)))=true:=q
     rw [e] at q
     have q:=of_decide_eq_true q
     rw [e2,if_pos (.inr (.inr q))]
     rfl
    ·
     have q:I.ltb (I.of .i64 64) (I.ofNat .i64 (a0K (d8B c)))=false:=q
     rw [e] at q
     have q:=of_decide_eq_false q
     exact hj _ ⟨by omega,rfl⟩
end Sym

/- The machine of the reference. -/
namespace Sym
open Go
theorem g5E (p:Prm) (k:I .i64) (n:U):Tot (a8J K0 ((p,(k,(n,()))),())):=by
 refine Wp.out (T:=fun o=>Tot o) ?_
 unfold a8J
 refine Wp.jn (fun x=>(1≤k.val∧k.val≤12)∧∃ z,x=((k,()),(p,(n,(z,()))))) ?_ ?_
 ·
  rintro x ⟨hk,z,rfl⟩
  refine Wp.optF (b8B p) (Wp.brn (fun _=>⟨_,rfl⟩) (fun _=>Wp.tot ⟨_,rfl⟩ (fun y2=>?_)))
  have hs:(I.sub k (I.of .i64 1)).val=k.val-1:=by rw [a8Q (by rw [show (I.of .i64 1).val=1 from rfl]; omega)]; rfl
  refine Wp.brnT (iff_inB.2 (by show 0≤(I.sub k (I.of .i64 1)).val∧(I.sub k (I.of .i64 1)).val<((12:Nat):Int); omega)) ?_
  refine Wp.iter (fun x=>∃ i,i≤12∧x.1.1=i6 i) (fun x=>12-x.1.1.val.toNat) ?_ ⟨0,by omega,rfl⟩ (by rw [a6Z]; show 12-0<_; decide)
  rintro ⟨⟨j,⟨⟩⟩,x3⟩ ⟨i,hi,e2⟩
  simp only at e2
  subst e2
  refine Wp.brn (fun hc=>?_) (fun hc=>?_)
  ·
   have hc:i<12:=by have:=iff_ltb.1 hc; simp only [a0Q (show i<9223372036854775808 by omega),show (I.of .i64 12).val=12 from rfl] at this; omega
   have hn:I.add (i6 i) (I.of .i64 1)=i6 (i+1):=a2K (m:=1) (by omega)
   refine Wp.brnT (a3H hc (by omega)) (Wp.optF (d7J _) (Wp.brn (fun _=>Wp.done ⟨_,rfl⟩) (fun _=>Wp.again ⟨i+1,by omega,hn⟩ ?_)))
   show 12-(I.add (i6 i) (I.of .i64 1)).val.toNat<12-(i6 i).val.toNat
   rw [hn,a0Q (by omega),a0Q (by omega)]; omega
  ·
   exact Wp.done (Wp.optF (b8B _) (Wp.brn (fun _=>⟨_,rfl⟩) (fun _=>⟨_,rfl⟩)))
 ·
  intro j hj
  refine Wp.brn (fun _=>⟨_,rfl⟩) (fun h=>Wp.brn (fun _=>⟨_,rfl⟩) (fun g=>hj _ ⟨?_,_,rfl⟩))
  have h:(I.of .i64 1).val≤k.val:=niff_ltb.1 h
  have g:k.val≤(I.of .i64 12).val:=niff_ltb.1 g
  exact ⟨h,g⟩
structure MS where
 steps:I .u64
 pm:Prm
 bk:g3F
 bl:I .u64
 pr:PrT
 v:V4
 ac:List Ac
 ms:List Msg
 bal:U
 rt:List Hs
 cl:List (I .u64)
 ba:List Pay
abbrev HM:Type:=a0W×(a0N×(a0T×((List a0B)×((List a0O)×((List a0D)×((List (I .u64))×((List a0E)×Unit)))))))
def MS.h (m:MS):HM:=((m.steps,(m.pm,(m.bk,(m.bl,(m.pr,((),((),((),())))))))),(lgH m.v,(esH m.bal,(m.ms,(m.ac,(m.rt,(m.cl,(m.ba,()))))))))
def MS.j (m:MS):a0W:=(m.steps,(m.pm,(m.bk,(m.bl,(m.pr,((),((),((),()))))))))
structure Sz (n:Nat) (m:MS):Prop where
 ac:m.ac.length≤n
 ms:m.ms.length≤n
 rt:m.rt.length≤n
 cl:m.cl.length≤n
 ba:m.ba.length≤n
 pr:m.pr.posters.length≤n
theorem Sz.mono {n k:Nat} {m:MS} (h:Sz n m) (hk:n≤k):Sz k m:=⟨Nat.le_trans h.ac hk,Nat.le_trans h.ms hk,Nat.le_trans h.rt hk,Nat.le_trans h.cl hk,Nat.le_trans h.ba hk,Nat.le_trans h.pr hk⟩
noncomputable def rtS (l:List Msg):Hs:=((b0R K0 ((l,(i6 l.length,())),())).getD ((a1X,(false,())),())).1.1
def d1P (m:MS) (to:I .u64) (n:U):Msg:=(I.conv (k:=.i64) .u64 (I.ofNat .i64 (a0K m.ms)),(to,(n,())))
noncomputable def f2B (m:MS) (to:I .u64) (n:U):MS:={ m with ms:=m.ms++[d1P m to n],rt:=m.rt++[rtS (m.ms++[d1P m to n])] }
theorem f6M (m:MS) (to:I .u64) (n:U) (h:Sz 1000000000 m):a5L K0 ((to,(n,())),m.h)=some ((d1P m to n,()),(f2B m to n).h):=by
 refine Wp.out (T:=fun o=>o=some ((d1P m to n,()),(f2B m to n).h)) ?_
 unfold a5L
 have hl:=h.ms
 have hr:=h.rt
 have e1:(m.ms++[d1P m to n]).length=m.ms.length+1:=by simp
 refine Wp.brnT (b4Q _ _ (by show m.ms.length+1≤_; omega)) ?_
 obtain ⟨y0,hy0⟩:=f1V (m.ms++[d1P m to n]) (by omega)
 have hrt:rtS (m.ms++[d1P m to n])=y0.1.1:=by unfold rtS; rw [hy0]; rfl
 refine Wp.optF hy0 ?_
 refine Wp.brnT (b4Q _ _ (by show m.rt.length+1≤_; omega)) ?_
 unfold f2B
 rw [hrt]
 rfl
theorem f0G {k:Nat} {m:MS} (h:Sz k m) (to:I .u64) (n:U):Sz (k+1) (f2B m to n) :=
 ⟨Nat.le_succ_of_le h.ac,by show (m.ms++[_]).length≤_; have:=h.ms; simp; omega,by show (m.rt++[_]).length≤_; have:=h.rt; simp; omega,Nat.le_succ_of_le h.cl,Nat.le_succ_of_le h.ba,Nat.le_succ_of_le h.pr⟩
end Sym

/- The machine of the reference: transactions. -/
namespace Sym
open Go
abbrev Rcp:Type:=a7H
abbrev Txn:Type:=a2W
abbrev Chg:Type:=a9Z
def a3V (t:Txn):I .u64:=t.1
def f5U (t:Txn):I .u64:=t.2.1
def tTo (t:Txn):I .u64:=t.2.2.1
def d3S (t:Txn):U:=t.2.2.2.1
def g2B (t:Txn):I .u64:=t.2.2.2.2.1
def f3O (t:Txn):U:=t.2.2.2.2.2.1
def f2T (t:Txn):U:=t.2.2.2.2.2.2.1
def tEx (t:Txn):I .u64:=t.2.2.2.2.2.2.2.1
def c6N (t:Txn):List (I .u8):=t.2.2.2.2.2.2.2.2.1
def e7W (k:g3F):U:=k.2.2.2.1
def f4X (k:g3F):I .u64:=k.2.2.1
noncomputable def g9G (k:g3F) (p:Prm):I .u64:=if I.ltb p.2.2.2.2.1 (f4X k)=true then I.of .u64 0 else I.sub p.2.2.2.2.1 (f4X k)
theorem h2G (k:g3F) (p:Prm):a7J K0 ((k,(p,())),())=some ((g9G k p,()),()):=by
 refine Wp.out (T:=fun o=>o=some ((g9G k p,()),())) ?_
 unfold a7J g9G
 refine Wp.brn (fun h=>?_) (fun h=>?_)
 ·
  have h:I.ltb p.2.2.2.2.1 (f4X k)=true:=h
  rw [if_pos h]; rfl
 ·
  have h:I.ltb p.2.2.2.2.1 (f4X k)=false:=h
  rw [if_neg (by rw [h]; decide)]; rfl
noncomputable def c6G (m:MS) (t:Txn):U×I .i64 :=
 if 4096<(c6N t).length then (Z_U,I.of .i64 6)
 else if (a3V t).val=0∨(tTo t).val=0∨(a3V t).val=18446744073709551615 then (Z_U,I.of .i64 2)
 else if I.neb (f5U t) (c6H m.ac (a3V t)).2.2.1=true then (Z_U,I.of .i64 11)
 else if I.eqb (I.add (c6H m.ac (a3V t)).2.2.1 (I.of .u64 1)) (I.of .u64 0)=true then (Z_U,I.of .i64 4)
 else if I.neb (f1M (f3O t,f2T t) (e7W m.bk)).2 (I.of .i64 0)=true then (Z_U,(f1M (f3O t,f2T t) (e7W m.bk)).2)
 else if I.ltb (g9G m.bk m.pm) (g2B t)=true then (Z_U,I.of .i64 13)
 else if e0A (g2B t) (f1M (f3O t,f2T t) (e7W m.bk)).1 (d3S t) (c6H m.ac (a3V t)).2.1=false then (Z_U,I.of .i64 10)
 else ((f1M (f3O t,f2T t) (e7W m.bk)).1,I.of .i64 0)
theorem h8A {b:Bool} (h:a6O b=true):b=false:=by cases b<;>simp [a6O] at h ⊢
theorem h8O {b:Bool} (h:a6O b=false):b=true:=by cases b<;>simp [a6O] at h ⊢
theorem a9M {b:Bool} (h:b=false):¬ b=true:=by rw [h]; decide
theorem g7N (m:MS) (t:Txn) (h:Sz 1000000000 m) (ht:(c6N t).length≤1073741824):a6U K0 ((t,()),m.h)=some (((c6G m t).1,((c6G m t).2,())),m.h):=by
 refine Wp.out (T:=fun o=>o=some (((c6G m t).1,((c6G m t).2,())),m.h)) ?_
 unfold a6U
 have e:I.ltb (I.of .i64 4096) (I.ofNat .i64 (a0K (c6N t)))=decide (4096<(c6N t).length):=a2L (n:=4096) (by omega) (by show (c6N t).length<_; omega)
 refine Wp.brn (fun q=>?_) (fun q=>?_)
 ·
  have q:I.ltb (I.of .i64 4096) (I.ofNat .i64 (a0K (c6N t)))=true:=q
  rw [e] at q
  unfold c6G
  rw [if_pos (of_decide_eq_true q)]
  rfl
 ·
  have q:I.ltb (I.of .i64 4096) (I.ofNat .i64 (a0K (c6N t)))=false:=q
  rw [e] at q
  have q:=of_decide_eq_false q
  refine Wp.jn (fun x=>(¬ ((a3V t).val=0∨(tTo t).val=0∨(a3V t).val=18446744073709551615))∧x=((),(m.j,(lgH m.v,(m.ac,(m.ms,(esH m.bal,(m.rt,(m.cl,(m.ba,(t,(Z_U,(Z_U,())))))))))))) ) ?_ ?_
  ·
   rintro x ⟨h1,rfl⟩
   unfold c6G
   rw [if_neg q,if_neg h1]
   have hg:=e3O m.ac (lgH m.v).2 (a3V t) (by have:=h.ac; omega)
   refine Wp.optF hg ?_
   refine Wp.brn (fun h2=>?_) (fun h2=>?_)
   ·
    have h2:I.neb (f5U t) (c6H m.ac (a3V t)).2.2.1=true:=h2
    rw [if_pos h2]; rfl
   ·
    have h2:I.neb (f5U t) (c6H m.ac (a3V t)).2.2.1=false:=h2
    rw [if_neg (a9M h2)]
    refine Wp.brn (fun h3=>?_) (fun h3=>?_)
    ·
     have h3:I.eqb (I.add (c6H m.ac (a3V t)).2.2.1 (I.of .u64 1)) (I.of .u64 0)=true:=h3
     rw [if_pos h3]; rfl
    ·
     have h3:I.eqb (I.add (c6H m.ac (a3V t)).2.2.1 (I.of .u64 1)) (I.of .u64 0)=false:=h3
     rw [if_neg (a9M h3)]
     refine Wp.optF (g6X t.1 t.2.1 t.2.2.1 t.2.2.2.2.1 t.2.2.2.2.2.2.2.1 t.2.2.2.2.2.2.2.2.1 (d3S t) (f3O t) (f2T t) (e7W m.bk)) ?_
     refine Wp.brn (fun h4=>?_) (fun h4=>?_)
     ·
      have h4:I.neb (f1M (f3O t,f2T t) (e7W m.bk)).2 (I.of .i64 0)=true:=h4
      rw [if_pos h4]; rfl
     ·
      have h4:I.neb (f1M (f3O t,f2T t) (e7W m.bk)).2 (I.of .i64 0)=false:=h4
      rw [if_neg (a9M h4)]
      refine Wp.optF (h2G m.bk m.pm) ?_
      refine Wp.brn (fun h5=>?_) (fun h5=>?_)
      ·
       have h5:I.ltb (g9G m.bk m.pm) (g2B t)=true:=h5
       rw [if_pos h5]; rfl
      ·
       have h5:I.ltb (g9G m.bk m.pm) (g2B t)=false:=h5
       rw [if_neg (a9M h5)]
       refine Wp.optF (g5W t.1 t.2.1 t.2.2.1 (g2B t) t.2.2.2.2.2.2.2.1 t.2.2.2.2.2.2.2.2.1 (d3S t) (f3O t) (f2T t) (f1M (f3O t,f2T t) (e7W m.bk)).1 (c6H m.ac (a3V t)).2.1) ?_
       refine Wp.brn (fun h6=>?_) (fun h6=>?_)
       ·
        have h6:e0A (g2B t) (f1M (f3O t,f2T t) (e7W m.bk)).1 (d3S t) (c6H m.ac (a3V t)).2.1=false:=h8A h6
        rw [if_pos h6]; rfl
       ·
        have h6:e0A (g2B t) (f1M (f3O t,f2T t) (e7W m.bk)).1 (d3S t) (c6H m.ac (a3V t)).2.1=true:=h8O h6
        rw [if_neg (by rw [h6]; decide)]; rfl
  ·
   intro j hj
   have e2:(a3V t).val=0∨(tTo t).val=0∨(a3V t).val=18446744073709551615→c6G m t=(Z_U,I.of .i64 2):=by
    intro hh
    unfold c6G
    rw [if_neg q,if_pos hh]
   refine Wp.brn (fun h1=>?_) (fun h1=>?_)
   ·
    have h1:(a3V t).val=0:=iff_eqb.1 h1
    rw [e2 (.inl h1)]; rfl
   ·
    have h1:(a3V t).val≠0:=niff_eqb.1 h1
    refine Wp.brn (fun h2=>?_) (fun h2=>?_)
    ·
     have h2:(tTo t).val=0:=iff_eqb.1 h2
     rw [e2 (.inr (.inl h2))]; rfl
    ·
     have h2:(tTo t).val≠0:=niff_eqb.1 h2
     refine Wp.brn (fun h3=>?_) (fun h3=>?_)
     ·
      have h3:(a3V t).val=(I.of .u64 18446744073709551615).val:=iff_eqb.1 h3
      rw [e2 (.inr (.inr h3))]; rfl
     ·
      have h3:(a3V t).val≠(I.of .u64 18446744073709551615).val:=niff_eqb.1 h3
      have c:(I.of .u64 18446744073709551615).val=18446744073709551615:=rfl
      exact hj _ ⟨by omega,rfl⟩
end Sym

/- The pricer's tables stay small. -/
namespace Sym
open Go
theorem f7Q {s:PrT} {p:Prm} {pool:U} {r:RepT} {now:I .u64} (h:¬ (b4P s p pool r now).2.2.val=0):(b4P s p pool r now).1=zPr∧(b4P s p pool r now).2.1=g9F:=by
 unfold b4P at h ⊢
 by_cases h1:(c9C s p r now).val=0
 ·
  rw [if_pos h1] at h ⊢
  by_cases h2:p.rpu.val*c8K s r now<U.top
  ·
   rw [if_pos h2] at h ⊢
   by_cases h3:(b6A s p r now).2.val=0
   ·
    rw [if_pos h3] at h ⊢
    by_cases h4:(a3L (b6A s p r now).1 (a2H (b6A s p r now).1 pool)).2.val=0
    ·
     rw [if_pos h4] at h ⊢
     by_cases h5:(c9W (c4O s (a3L (b6A s p r now).1 (a2H (b6A s p r now).1 pool)).1) p pool (c1V s p r now (a2H (b6A s p r now).1 pool))).2.val=0
     ·
      rw [if_pos h5] at h
      exact absurd rfl h
     ·
      rw [if_neg h5]; exact ⟨rfl,rfl⟩
    ·
     rw [if_neg h4]; exact ⟨rfl,rfl⟩
   ·
    rw [if_neg h3]; exact ⟨rfl,rfl⟩
  ·
   rw [if_neg h2]; exact ⟨rfl,rfl⟩
 ·
  rw [if_neg h1]; exact ⟨rfl,rfl⟩
theorem f4S (s:PrT) (p:Prm) (pool:U) (r:RepT) (now:I .u64):(b4P s p pool r now).1.posters.length≤64∧(b4P s p pool r now).2.1.2.2.1.length≤64:=by
 by_cases h:(b4P s p pool r now).2.2.val=0
 ·
  have hR:=h1T h
  refine ⟨hR.tab2.1,?_⟩
  rw [hR.out]
  exact Nat.le_trans (d9Q _ _) hR.tab1.1
 ·
  rw [(f7Q h).1,(f7Q h).2]
  exact ⟨Nat.zero_le _,Nat.zero_le _⟩
theorem f9X (l:List Post) (a:I .u64):(d7X l a).1.length≤l.length+1:=by
 unfold d7X
 split
 ·
  split
  ·
   exact Nat.zero_le _
  ·
   split
   ·
    exact Nat.zero_le _
   ·
    exact Nat.le_of_eq (f0C l a)
 ·
  exact Nat.zero_le _
theorem e1K (s:PrT) (a:I .u64):(a9R s a).1.posters.length≤s.posters.length+1:=by
 unfold a9R
 split
 ·
  split
  ·
   exact f9X _ _
  ·
   exact Nat.zero_le _
 ·
  exact Nat.zero_le _
theorem d2X (s:PrT) (n:I .u64):(a8N s n).1.posters.length≤s.posters.length:=by
 unfold a8N
 split
 ·
  split
  ·
   exact Nat.le_refl _
  ·
   exact Nat.zero_le _
 ·
  exact Nat.zero_le _
end Sym

/- The machine of the reference: what a transaction does. -/
namespace Sym
open Go
noncomputable abbrev h8M:Chg:=a4U
noncomputable section
def g1A (e:I .i64):Rcp:=(I.of .i64 0,(e,(h8M,(Z_U,(Z_U,(I.of .u64 0,(Z_U,(Z_U,([],())))))))))
def txR (c:Chg) (price value:U) (l:List Msg):Rcp:=(I.of .i64 0,(I.of .i64 0,(c,(price,(value,(I.of .u64 0,(Z_U,(Z_U,(l,())))))))))
def c7P (c:Chg):I .u64:=c.1
def h1A (c:Chg):I .u64:=c.2.2.1
def h4P (c:Chg):I .u64:=c.2.2.2.1
def cOut (c:Chg):Bool:=c.2.2.2.2.1
def h2Q (c:Chg):U:=c.2.2.2.2.2.2.1
def g4F (c:Chg):U:=c.2.2.2.2.2.2.2.1
def h8D (c:Chg):U:=c.2.2.2.2.2.2.2.2.1
def h0T (c:Chg):U:=c.2.2.2.2.2.2.2.2.2.1
def a6E (m:MS) (t:Txn):Chg×I .i64:=g9I (c6N t) (g2B t) (tEx t) (f3O t) (f2T t) (e7W m.bk) m.pr.1 m.pm
def g3S (a b:I .u64):I .u64:=((a9Q K0 ((a,(b,())),())).getD ((I.of .u64 0,()),())).1.1
theorem g0V (a b:I .u64):a9Q K0 ((a,(b,())),())=some ((g3S a b,()),()):=(f6A a b).val ((I.of .u64 0,()),())
def e5V (m:MS) (a:I .u64) (c:Chg):LgR:=d1X m.v m.ac a 2 (h2Q c)
def e5X (m:MS) (a:I .u64) (c:Chg):LgR:=d1X (e5V m a c).2.1 (e5V m a c).2.2 a 1 (g4F c)
def e5J (m:MS) (a:I .u64) (c:Chg):LgR:=d1X (e5X m a c).2.1 (e5X m a c).2.2 a 0 (h8D c)
def d6U (m:MS) (a:I .u64) (c:Chg):LgR:=d1X (e5J m a c).2.1 (e5J m a c).2.2 a 3 (h0T c)
def d7Y (m:MS) (a:I .u64) (c:Chg):List Ac:=(g3K (d6U m a c).2.2 a).2
theorem b9D (v:V4) (l:List Ac) (a:I .u64) (k:Nat) (n:U):(d1X v l a k n).2.2.length≤l.length+1:=by
 unfold d1X
 split
 ·
  exact Nat.le_succ _
 ·
  split<;>exact c3V _ _ _
theorem e9D (l:List Ac) (a:I .u64):(g3K l a).2.length≤l.length+1:=by
 unfold g3K
 split
 ·
  exact Nat.le_succ _
 ·
  split
  ·
   exact Nat.le_succ _
  ·
   exact e2D _ _
def f1Q (m:MS) (t:Txn) (c:Chg) (q:PrT):MS :=
 { m with bk:=(m.bk.1,(m.bk.2.1,(I.add (f4X m.bk) (h4P c),m.bk.2.2.2))),bl:=g3S m.bl (h1A c),pr:=q,v:=(d6U m (a3V t) c).2.1,ac:=d7Y m (a3V t) c }
def g9Q (m:MS) (t:Txn) (c:Chg) (price:U):Rcp×MS :=
 if I.neb (tTo t) (I.of .u64 18446744073709551615)=true then (txR c price (d3S t) [],{ m with ac:=(g1T m.ac (a3V t) (tTo t) (d3S t)).2 })
 else if (d3S t).val=0 then (txR c price (d3S t) [],m)
 else (txR c price (d3S t) [d1P m (a3V t) (d3S t)],f2B { m with ac:=(f0V m.ac (a3V t) (d3S t)).2 } (a3V t) (d3S t))
def txS (m:MS) (t:Txn):Rcp×MS :=
 if I.neb (c6G m t).2 (I.of .i64 0)=true then (g1A (c6G m t).2,m)
 else if I.neb (a6E m t).2 (I.of .i64 0)=true then (g1A (a6E m t).2,m)
 else if I.neb (a8N m.pr (c7P (a6E m t).1)).2 (I.of .i64 0)=true then (g1A (I.of .i64 4),m)
 else if cOut (a6E m t).1=true then (txR (a6E m t).1 (c6G m t).1 Z_U [],f1Q m t (a6E m t).1 (a8N m.pr (c7P (a6E m t).1)).1)
 else if I.eqb (tTo t) (a3V t)=true then (txR (a6E m t).1 (c6G m t).1 Z_U [],f1Q m t (a6E m t).1 (a8N m.pr (c7P (a6E m t).1)).1)
 else g9Q (f1Q m t (a6E m t).1 (a8N m.pr (c7P (a6E m t).1)).1) t (a6E m t).1 (c6G m t).1
def h0U (r:Rcp):((I .i64)×((I .i64)×(a9Z×(U×(U×((I .u64)×(U×(U×(Unit×Unit))))))))):=(r.1,(r.2.1,(r.2.2.1,(r.2.2.2.1,(r.2.2.2.2.1,(r.2.2.2.2.2.1,(r.2.2.2.2.2.2.1,(r.2.2.2.2.2.2.2.1,((),())))))))))
theorem f2A {m:MS} {t:Txn} (h:I.neb (c6G m t).2 (I.of .i64 0)=false):(c6N t).length≤4096:=by
 by_cases q:4096<(c6N t).length
 ·
  unfold c6G at h
  rw [if_pos q] at h
  exact absurd h (by decide)
 ·
  omega
theorem h5G (m:MS) (t:Txn) (h:Sz 100000000 m) (ht:(c6N t).length≤1073741824):a8P K0 ((t,()),m.h)=some (((txS m t).1,()),(txS m t).2.h):=by
 refine Wp.out (T:=fun o=>o=some (((txS m t).1,()),(txS m t).2.h)) ?_
 unfold a8P txS
 have hac:=h.ac
 refine Wp.optF (g7N m t (h.mono (by decide)) ht) ?_
 refine Wp.brn (fun h1=>?_) (fun h1=>?_)
 ·
  have h1:I.neb (c6G m t).2 (I.of .i64 0)=true:=h1
  rw [if_pos h1]; rfl
 ·
  have h1:I.neb (c6G m t).2 (I.of .i64 0)=false:=h1
  rw [if_neg (a9M h1)]
  have hd:=f2A h1
  have hcomp:=e8F t.1 t.2.1 t.2.2.1 (g2B t) (tEx t) (c6N t) (d3S t) (f3O t) (f2T t) (e7W m.bk) m.pr.1 m.pm (by omega)
  refine Wp.optF hcomp ?_
  refine Wp.brn (fun h2=>?_) (fun h2=>?_)
  ·
   have h2:I.neb (a6E m t).2 (I.of .i64 0)=true:=h2
   rw [if_pos h2]; rfl
  ·
   have h2:I.neb (a6E m t).2 (I.of .i64 0)=false:=h2
   rw [if_neg (a9M h2)]
   refine Wp.optF (e5Z m.pr (c7P (a6E m t).1) (by have:=h.pr; omega)) ?_
   refine Wp.brn (fun h3=>?_) (fun h3=>?_)
   ·
    have h3:I.neb (a8N m.pr (c7P (a6E m t).1)).2 (I.of .i64 0)=true:=h3
    rw [if_pos h3]; rfl
   ·
    have h3:I.neb (a8N m.pr (c7P (a6E m t).1)).2 (I.of .i64 0)=false:=h3
    rw [if_neg (a9M h3)]
    have l1:(e5V m (a3V t) (a6E m t).1).2.2.length≤m.ac.length+1:=b9D _ _ _ _ _
    have l2:(e5X m (a3V t) (a6E m t).1).2.2.length≤(e5V m (a3V t) (a6E m t).1).2.2.length+1:=b9D _ _ _ _ _
    have l3:(e5J m (a3V t) (a6E m t).1).2.2.length≤(e5X m (a3V t) (a6E m t).1).2.2.length+1:=b9D _ _ _ _ _
    have l4:(d6U m (a3V t) (a6E m t).1).2.2.length≤(e5J m (a3V t) (a6E m t).1).2.2.length+1:=b9D _ _ _ _ _
    have l5:(d7Y m (a3V t) (a6E m t).1).length≤(d6U m (a3V t) (a6E m t).1).2.2.length+1:=e9D _ _
    have p1:=e0S m.v m.ac (a3V t) 2 (by omega) (h2Q (a6E m t).1) (by omega)
    have p2:=e0S (e5V m (a3V t) (a6E m t).1).2.1 (e5V m (a3V t) (a6E m t).1).2.2 (a3V t) 1 (by omega) (g4F (a6E m t).1) (by omega)
    have p3:=e0S (e5X m (a3V t) (a6E m t).1).2.1 (e5X m (a3V t) (a6E m t).1).2.2 (a3V t) 0 (by omega) (h8D (a6E m t).1) (by omega)
    have p4:=e0S (e5J m (a3V t) (a6E m t).1).2.1 (e5J m (a3V t) (a6E m t).1).2.2 (a3V t) 3 (by omega) (h0T (a6E m t).1) (by omega)
    have p5:=h1L (d6U m (a3V t) (a6E m t).1).2.1 (d6U m (a3V t) (a6E m t).1).2.2 (a3V t) (by omega)
    refine Wp.optF p1 (Wp.optF p2 (Wp.optF p3 (Wp.optF p4 (Wp.optF p5 (Wp.optF (g0V m.bl (h1A (a6E m t).1)) ?_)))))
    refine Wp.jn (fun x=>(cOut (a6E m t).1=false∧I.eqb (tTo t) (a3V t)=false)∧x=((),((f1Q m t (a6E m t).1 (a8N m.pr (c7P (a6E m t).1)).1).j,(lgH (d6U m (a3V t) (a6E m t).1).2.1,(d7Y m (a3V t) (a6E m t).1,(m.ms,(esH m.bal,(m.rt,(m.cl,(m.ba,(t,(h0U (g1A (I.of .i64 0)),([],(h0U (txR (a6E m t).1 (c6G m t).1 Z_U []),([],())))))))))))))) ) ?_ ?_
    ·
     rintro x ⟨⟨g1,g2⟩,rfl⟩
     rw [if_neg (a9M g1),if_neg (a9M g2)]
     unfold g9Q
     refine Wp.brn (fun h4=>?_) (fun h4=>?_)
     ·
      have h4:I.neb (tTo t) (I.of .u64 18446744073709551615)=true:=h4
      rw [if_pos h4]
      have p6:=g9X (d6U m (a3V t) (a6E m t).1).2.1 (d7Y m (a3V t) (a6E m t).1) (a3V t) (tTo t) (d3S t) (by omega)
      exact Wp.optF p6 rfl
     ·
      have h4:I.neb (tTo t) (I.of .u64 18446744073709551615)=false:=h4
      rw [if_neg (a9M h4)]
      refine Wp.optF (c4K (d3S t)) ?_
      refine Wp.brn (fun h5=>?_) (fun h5=>?_)
      ·
       have h5:decide ((d3S t).val=0)=false:=h8A h5
       rw [if_neg (of_decide_eq_false h5)]
       have p6:=h2J (d6U m (a3V t) (a6E m t).1).2.1 (d7Y m (a3V t) (a6E m t).1) (a3V t) (d3S t) (by omega)
       refine Wp.optF p6 ?_
       have l6:(f0V (d7Y m (a3V t) (a6E m t).1) (a3V t) (d3S t)).2.length≤(d7Y m (a3V t) (a6E m t).1).length+1:=by
        unfold f0V
        split
        ·
         exact Nat.le_succ _
        ·
         exact c3V _ _ _
       have p7:=f6M { f1Q m t (a6E m t).1 (a8N m.pr (c7P (a6E m t).1)).1 with ac:=(f0V (d7Y m (a3V t) (a6E m t).1) (a3V t) (d3S t)).2 } (a3V t) (d3S t) ⟨by show (f0V _ _ _).2.length≤_; omega,Nat.le_trans h.ms (by decide),Nat.le_trans h.rt (by decide),Nat.le_trans h.cl (by decide),Nat.le_trans h.ba (by decide),by have:=d2X m.pr (c7P (a6E m t).1); have:=h.pr; show (a8N m.pr (c7P (a6E m t).1)).1.posters.length≤_; omega⟩
       refine Wp.optF p7 (Wp.brnT (b4Q _ _ (by show 0+1≤_; omega)) rfl)
      ·
       have h5:decide ((d3S t).val=0)=true:=h8O h5
       rw [if_pos (of_decide_eq_true h5)]
       rfl
    ·
     intro j hj
     refine Wp.brn (fun h4=>?_) (fun h4=>?_)
     ·
      have h4:cOut (a6E m t).1=true:=h4
      rw [if_pos h4]; rfl
     ·
      have h4:cOut (a6E m t).1=false:=h4
      refine Wp.brn (fun h5=>?_) (fun h5=>?_)
      ·
       have h5:I.eqb (tTo t) (a3V t)=true:=h5
       rw [if_neg (a9M h4),if_pos h5]; rfl
      ·
       have h5:I.eqb (tTo t) (a3V t)=false:=h5
       exact hj _ ⟨⟨h4,h5⟩,rfl⟩
end
end Sym

/- The machine of the reference: reports. -/
namespace Sym
open Go
noncomputable def e6Q (s:MS×List Msg) (p:Pay):MS×List Msg:=(f2B { s.1 with v:=(g0F s.1.v 2 p.2.1).2 } p.1 p.2.1,s.2++[d1P s.1 p.1 p.2.1])
noncomputable def c6F (m:MS) (l:List Pay):MS×List Msg:=l.foldl e6Q (m,[])
theorem d8W (m:MS) (l:List Pay) (i:Nat) (h:i<l.length):c6F m (l.take (i+1))=e6Q (c6F m (l.take i)) (rdL d7Z l i):=by
 unfold c6F
 rw [List.take_add_one,List.getElem?_eq_getElem h,a3Y _ _ _ h,List.foldl_append]
 rfl
theorem f2K {k:Nat} {s:MS×List Msg} (h:Sz k s.1) (p:Pay):Sz (k+1) (e6Q s p).1 :=
 f0G (m:={ s.1 with v:=(g0F s.1.v 2 p.2.1).2 }) ⟨h.ac,h.ms,h.rt,h.cl,h.ba,h.pr⟩ _ _
theorem e1N {k:Nat} {m:MS} (h:Sz k m) (l:List Pay):∀ i,i≤l.length→Sz (k+i) (c6F m (l.take i)).1∧(c6F m (l.take i)).2.length=i
 | 0,_=>⟨h,rfl⟩
 | i+1,hi=>by
  obtain ⟨h1,h2⟩:=e1N h l i (by omega)
  rw [d8W m l i (by omega)]
  refine ⟨f2K h1 _,?_⟩
  show (_++[_]).length=_
  rw [List.length_append,h2]
  rfl
noncomputable def h8N (o:g5L) (paid:U) (l:List Msg):Rcp:=(I.of .i64 0,(I.of .i64 0,(h8M,(Z_U,(Z_U,(o.1,(o.2.1,(paid,(l,())))))))))
noncomputable def d6X (m:MS) (r:RepT):PrT×g5L×I .i64:=b4P m.pr m.pm (f3J m.v 2) r m.bk.2.1
noncomputable def c4U (m:MS) (r:RepT):List Pay:=(d6X m r).2.1.2.2.1
noncomputable def h7M (m:MS) (r:RepT):MS×List Msg:=c6F { m with pr:=(d6X m r).1 } (c4U m r)
noncomputable def f8Y (m:MS) (r:RepT):Rcp×MS :=
 if I.neb (d6X m r).2.2 (I.of .i64 0)=true then (g1A (d6X m r).2.2,m)
 else (h8N (d6X m r).2.1 (c9B (b3C ((c4U m r).map amt))).1 (h7M m r).2,(h7M m r).1)
theorem h1G (m:MS) (r:RepT) (h:Sz 100000000 m):a6H K0 ((r,()),m.h)=some (((f8Y m r).1,()),(f8Y m r).2.h):=by
 refine Wp.out (T:=fun o=>o=some (((f8Y m r).1,()),(f8Y m r).2.h)) ?_
 unfold a6H f8Y
 refine Wp.optF (g0Z m.ac m.v 2 (by omega)) ?_
 refine Wp.optF (f3I m.pr m.pm (f3J m.v 2) r m.bk.2.1 (by have:=h.pr; omega)) ?_
 refine Wp.brn (fun h1=>?_) (fun h1=>?_)
 ·
  have h1:I.neb (d6X m r).2.2 (I.of .i64 0)=true:=h1
  rw [if_pos h1]; rfl
 ·
  have h1:I.neb (d6X m r).2.2 (I.of .i64 0)=false:=h1
  rw [if_neg (a9M h1)]
  have hlen:=f4S m.pr m.pm (f3J m.v 2) r m.bk.2.1
  have hpl:(c4U m r).length≤64:=hlen.2
  refine Wp.optF (f6I (l:=c4U m r) (by omega)) ?_
  have hsz0:Sz 100000000 { m with pr:=(d6X m r).1 }:=⟨h.ac,h.ms,h.rt,h.cl,h.ba,Nat.le_trans hlen.1 (by decide)⟩
  refine Wp.iter (fun x=>∃ i,i≤(c4U m r).length∧x=((i6 i,()),((c6F { m with pr:=(d6X m r).1 } ((c4U m r).take i)).1.j,(lgH (c6F { m with pr:=(d6X m r).1 } ((c4U m r).take i)).1.v,((c6F { m with pr:=(d6X m r).1 } ((c4U m r).take i)).1.ac,((c6F { m with pr:=(d6X m r).1 } ((c4U m r).take i)).1.ms,(esH (c6F { m with pr:=(d6X m r).1 } ((c4U m r).take i)).1.bal,((c6F { m with pr:=(d6X m r).1 } ((c4U m r).take i)).1.rt,((c6F { m with pr:=(d6X m r).1 } ((c4U m r).take i)).1.cl,((c6F { m with pr:=(d6X m r).1 } ((c4U m r).take i)).1.ba,(h0U (g1A (I.of .i64 0)),([],((d6X m r).2.1,(h0U (h8N (d6X m r).2.1 (c9B (b3C ((c4U m r).map amt))).1 []),((c6F { m with pr:=(d6X m r).1 } ((c4U m r).take i)).2,()))))))))))))))) (fun x=>(c4U m r).length-x.1.1.val.toNat) ?_ ⟨0,by omega,rfl⟩ (by rw [a6Z]; show (c4U m r).length-0<_; omega)
  rintro x ⟨i,hi,rfl⟩
  obtain ⟨hsz,hml⟩:=e1N hsz0 (c4U m r) i hi
  have hnx:=fun hc=>d8W { m with pr:=(d6X m r).1 } (c4U m r) i hc
  have hfin:i=(c4U m r).length→c6F { m with pr:=(d6X m r).1 } ((c4U m r).take i)=h7M m r:=by
   intro e
   rw [e,List.take_length]
   rfl
  generalize c6F { m with pr:=(d6X m r).1 } ((c4U m r).take i)=s at *
  obtain ⟨m',ml⟩:=s
  have e:I.ltb (i6 i) (I.ofNat .i64 (a0K (c4U m r)))=decide (i<(c4U m r).length):=a2L (by omega) (by show (c4U m r).length<_; omega)
  refine Wp.brn (fun hc=>?_) (fun hc=>?_)
  ·
   have hc:I.ltb (i6 i) (I.ofNat .i64 (a0K (c4U m r)))=true:=hc
   rw [e] at hc
   have hc:=of_decide_eq_true hc
   have hin:inB (i6 i) (a0K (c4U m r))=true:=a3H hc (by omega)
   refine Wp.brnT hin ?_
   have hrd:rdL d7Z (c4U m r) (I.nat (i6 i))=rdL d7Z (c4U m r) i:=by rw [a3J (by omega)]
   have w1:=h1M m'.v m'.ac 2 (by omega) (rdL d7Z (c4U m r) (I.nat (i6 i))).2.1
   refine Wp.optF w1 (Wp.brnT hin (Wp.brnT hin ?_))
   have w2:=f6M { m' with v:=(g0F m'.v 2 (rdL d7Z (c4U m r) (I.nat (i6 i))).2.1).2 } (rdL d7Z (c4U m r) (I.nat (i6 i))).1 (rdL d7Z (c4U m r) (I.nat (i6 i))).2.1 ((show Sz (100000000+i) { m' with v:=(g0F m'.v 2 (rdL d7Z (c4U m r) (I.nat (i6 i))).2.1).2 } from ⟨hsz.ac,hsz.ms,hsz.rt,hsz.cl,hsz.ba,hsz.pr⟩).mono (by omega))
   refine Wp.optF w2 (Wp.brnT (b4Q _ _ (by show ml.length+1≤_; have:ml.length=i:=hml; omega)) ?_)
   have hn:I.add (i6 i) (I.of .i64 1)=i6 (i+1):=a2K (m:=1) (by omega)
   refine Wp.again ⟨i+1,by omega,?_⟩ ?_
   ·
    rw [hnx hc]
    show ((I.add (i6 i) (I.of .i64 1),()),_)=_
    rw [hn,hrd]
    rfl
   ·
    show (c4U m r).length-(I.add (i6 i) (I.of .i64 1)).val.toNat<(c4U m r).length-(i6 i).val.toNat
    rw [hn,a0Q (by omega),a0Q (by omega)]; omega
  ·
   have hc:I.ltb (i6 i) (I.ofNat .i64 (a0K (c4U m r)))=false:=hc
   rw [e] at hc
   have hc:=of_decide_eq_false hc
   refine Wp.done ?_
   rw [← hfin (by omega)]
   rfl
end Sym

/- The machine of the reference: the other steps; a step. -/
namespace Sym
open Go
abbrev c5B:Type:=a0J
def b0G (s:c5B):I .i64:=s.1
def sTx (s:c5B):Txn:=s.2.1
def h2Y (s:c5B):RepT:=s.2.2.1
def e6D (s:c5B):I .u64:=s.2.2.2.1
def g5J (s:c5B):I .i64:=s.2.2.2.2.1
def d7P (s:c5B):U:=s.2.2.2.2.2.1
def d7O (s:c5B):I .u64:=s.2.2.2.2.2.2.1
def f8Z (s:c5B):Clm:=s.2.2.2.2.2.2.2.1
noncomputable def g3Z (p:Prm) (k:I .i64) (n:U):Prm×I .i64 :=
 (((a8J K0 ((p,(k,(n,()))),())).getD ((a6D,(I.of .i64 0,())),())).1.1,((a8J K0 ((p,(k,(n,()))),())).getD ((a6D,(I.of .i64 0,())),())).1.2.1)
theorem h1H (p:Prm) (k:I .i64) (n:U):a8J K0 ((p,(k,(n,()))),())=some (((g3Z p k n).1,((g3Z p k n).2,())),()):=(g5E p k n).val ((a6D,(I.of .i64 0,())),())
def f8W (b:I .u64) (p:Prm) (sec:I .u64):I .u64:=I.of .u64 ((b.nat-p.1.nat*sec.nat:Nat):Int)
theorem g9V (b:I .u64) (p:Prm) (sec:I .u64):b2F K0 ((b,(p.1,(sec,()))),())=some ((f8W b p sec,()),()):=by
 refine Wp.out (T:=fun o=>o=some ((f8W b p sec,()),())) ?_
 unfold b2F
 exact Wp.optF (f7F b p.1 sec) rfl
noncomputable def g2F (m:MS) (s:c5B):I .i64×MS :=
 if I.eqb (b0G s) (I.of .i64 3)=true then
  (if I.eqb (c7R m.bk (e6D s) (f8W m.bl m.pm (e6D s)) m.pm).2 (I.of .i64 0)=true then ((c7R m.bk (e6D s) (f8W m.bl m.pm (e6D s)) m.pm).2,{ m with bk:=(c7R m.bk (e6D s) (f8W m.bl m.pm (e6D s)) m.pm).1,bl:=f8W m.bl m.pm (e6D s) })
   else ((c7R m.bk (e6D s) (f8W m.bl m.pm (e6D s)) m.pm).2,m))
 else if I.eqb (b0G s) (I.of .i64 4)=true then
  (if I.eqb (g3Z m.pm (g5J s) (d7P s)).2 (I.of .i64 0)=true then ((g3Z m.pm (g5J s) (d7P s)).2,{ m with pm:=(g3Z m.pm (g5J s) (d7P s)).1 }) else ((g3Z m.pm (g5J s) (d7P s)).2,m))
 else if I.eqb (b0G s) (I.of .i64 5)=true then
  (if I.eqb (a9R m.pr (d7O s)).2 (I.of .i64 0)=true then ((a9R m.pr (d7O s)).2,{ m with pr:=(a9R m.pr (d7O s)).1 }) else ((a9R m.pr (d7O s)).2,m))
 else if I.eqb (b0G s) (I.of .i64 6)=true then
  (if (d7O s).val=0∨(d7O s).val=18446744073709551615∨(d7P s).val=0 then (I.of .i64 2,m)
   else if m.bal.val+(d7P s).val<U.top then ((d2A m.v m.ac (d7O s) (d7P s)).1,{ m with bal:=(g9A m.bal (d7P s)).2,v:=(d2A m.v m.ac (d7O s) (d7P s)).2.1,ac:=(d2A m.v m.ac (d7O s) (d7P s)).2.2 })
   else (I.of .i64 4,m))
 else ((d4R m.bal m.rt m.cl m.ba (f8Z s)).1,{ m with bal:=(d4R m.bal m.rt m.cl m.ba (f8Z s)).2.1,cl:=(d4R m.bal m.rt m.cl m.ba (f8Z s)).2.2.1,ba:=(d4R m.bal m.rt m.cl m.ba (f8Z s)).2.2.2 })
theorem h2H (m:MS) (s:c5B) (h:Sz 100000000 m) (hp:(d8B (f8Z s)).length≤1073741824):a6T K0 ((s,()),m.h)=some (((g2F m s).1,()),(g2F m s).2.h):=by
 refine Wp.out (T:=fun o=>o=some (((g2F m s).1,()),(g2F m s).2.h)) ?_
 unfold a6T g2F
 have hac:=h.ac
 refine Wp.brn (fun k3=>?_) (fun k3=>?_)
 ·
  have k3:I.eqb (b0G s) (I.of .i64 3)=true:=k3
  rw [if_pos k3]
  refine Wp.optF (g9V m.bl m.pm (e6D s)) (Wp.optF (g2M m.bk (e6D s) (f8W m.bl m.pm (e6D s)) m.pm) ?_)
  refine Wp.brn (fun q=>?_) (fun q=>?_)
  ·
   have q:I.eqb (c7R m.bk (e6D s) (f8W m.bl m.pm (e6D s)) m.pm).2 (I.of .i64 0)=true:=q
   rw [if_pos q]; rfl
  ·
   have q:I.eqb (c7R m.bk (e6D s) (f8W m.bl m.pm (e6D s)) m.pm).2 (I.of .i64 0)=false:=q
   rw [if_neg (a9M q)]; rfl
 have k3:I.eqb (b0G s) (I.of .i64 3)=false:=k3
 rw [if_neg (a9M k3)]
 refine Wp.brn (fun k4=>?_) (fun k4=>?_)
 ·
  have k4:I.eqb (b0G s) (I.of .i64 4)=true:=k4
  rw [if_pos k4]
  refine Wp.optF (h1H m.pm (g5J s) (d7P s)) ?_
  refine Wp.brn (fun q=>?_) (fun q=>?_)
  ·
   have q:I.eqb (g3Z m.pm (g5J s) (d7P s)).2 (I.of .i64 0)=true:=q
   rw [if_pos q]; rfl
  ·
   have q:I.eqb (g3Z m.pm (g5J s) (d7P s)).2 (I.of .i64 0)=false:=q
   rw [if_neg (a9M q)]; rfl
 have k4:I.eqb (b0G s) (I.of .i64 4)=false:=k4
 rw [if_neg (a9M k4)]
 refine Wp.brn (fun k5=>?_) (fun k5=>?_)
 ·
  have k5:I.eqb (b0G s) (I.of .i64 5)=true:=k5
  rw [if_pos k5]
  refine Wp.optF (e1D m.pr (d7O s) (by have:=h.pr; omega)) ?_
  refine Wp.brn (fun q=>?_) (fun q=>?_)
  ·
   have q:I.eqb (a9R m.pr (d7O s)).2 (I.of .i64 0)=true:=q
   rw [if_pos q]; rfl
  ·
   have q:I.eqb (a9R m.pr (d7O s)).2 (I.of .i64 0)=false:=q
   rw [if_neg (a9M q)]; rfl
 have k5:I.eqb (b0G s) (I.of .i64 5)=false:=k5
 rw [if_neg (a9M k5)]
 refine Wp.brn (fun k6=>?_) (fun k6=>?_)
 ·
  have k6:I.eqb (b0G s) (I.of .i64 6)=true:=k6
  rw [if_pos k6]
  refine Wp.jn (fun x=>(¬ ((d7O s).val=0∨(d7O s).val=18446744073709551615∨(d7P s).val=0))∧x=((),(m.j,(lgH m.v,(m.ac,(m.ms,(esH m.bal,(m.rt,(m.cl,(m.ba,(s,()))))))))))) ?_ ?_
  ·
   rintro x ⟨h1,rfl⟩
   rw [if_neg h1]
   obtain ⟨r1,e1,B1⟩:=a1I m.bal
   obtain ⟨r2,e2,B2⟩:=a1I (d7P s)
   obtain ⟨r3,e3,B3⟩:=b3H B1 B2 (f2J B1) (f2J B2)
   have e4:=e4N B3 (g0X B3 (by have:=U.lt m.bal; have:=U.lt (d7P s); omega))
   refine Wp.optF e1 (Wp.optF e2 (Wp.optF e3 (Wp.optF e4 ?_)))
   by_cases hc:m.bal.val+(d7P s).val<U.top
   ·
    rw [if_pos hc]
    refine Wp.brnF (by rw [decide_eq_true hc]; rfl) ?_
    exact Wp.optF (h0M m.bal (d7P s) m.rt m.cl m.ba) (Wp.optF (g5A m.v m.ac (d7O s) (d7P s) (by omega)) rfl)
   ·
    rw [if_neg hc]
    exact Wp.brnT (by rw [decide_eq_false hc]; rfl) rfl
  ·
   intro j hj
   refine Wp.brn (fun h1=>?_) (fun h1=>?_)
   ·
    have h1:(d7O s).val=0:=iff_eqb.1 h1
    rw [if_pos (.inl h1)]; rfl
   ·
    have h1:(d7O s).val≠0:=niff_eqb.1 h1
    refine Wp.brn (fun h2=>?_) (fun h2=>?_)
    ·
     have h2:(d7O s).val=(I.of .u64 18446744073709551615).val:=iff_eqb.1 h2
     rw [if_pos (.inr (.inl h2))]; rfl
    ·
     have h2:(d7O s).val≠(I.of .u64 18446744073709551615).val:=niff_eqb.1 h2
     have c:(I.of .u64 18446744073709551615).val=18446744073709551615:=rfl
     refine Wp.optF (c4K (d7P s)) ?_
     refine Wp.brn (fun h3=>?_) (fun h3=>?_)
     ·
      have h3:=of_decide_eq_true h3
      rw [if_pos (.inr (.inr h3))]; rfl
     ·
      have h3:=of_decide_eq_false h3
      exact hj _ ⟨by omega,rfl⟩
 have k6:I.eqb (b0G s) (I.of .i64 6)=false:=k6
 rw [if_neg (a9M k6)]
 exact Wp.optF (g1R m.bal m.rt m.cl m.ba (f8Z s) (by have:=h.rt; omega) (by have:=h.cl; omega) (by have:=h.ba; omega) hp) rfl
noncomputable def d3Z (m:MS):MS:=if I.neb (I.add m.steps (I.of .u64 1)) (I.of .u64 0)=true then { m with steps:=I.add m.steps (I.of .u64 1) } else m
def g7T (k:I .i64) (r:Rcp):Rcp:=(k,r.2)
noncomputable def f3X (m:MS) (s:c5B):Rcp×MS :=
 if ¬ (1≤(b0G s).val∧(b0G s).val≤7) then (g1A (I.of .i64 17),d3Z m)
 else if I.eqb (b0G s) (I.of .i64 1)=true then (g7T (b0G s) (txS (d3Z m) (sTx s)).1,(txS (d3Z m) (sTx s)).2)
 else if I.eqb (b0G s) (I.of .i64 2)=true then (g7T (b0G s) (f8Y (d3Z m) (h2Y s)).1,(f8Y (d3Z m) (h2Y s)).2)
 else (g7T (b0G s) (g1A (g2F (d3Z m) s).1),(g2F (d3Z m) s).2)
theorem f5V {n:Nat} {m:MS} (h:Sz n m):Sz n (d3Z m):=by
 unfold d3Z
 split
 ·
  exact ⟨h.ac,h.ms,h.rt,h.cl,h.ba,h.pr⟩
 ·
  exact h
theorem g3P (m:MS) (s:c5B) (h:Sz 100000000 m) (hd:(c6N (sTx s)).length≤1073741824) (hp:(d8B (f8Z s)).length≤1073741824):a4F K0 ((s,()),m.h)=some (((f3X m s).1,()),(f3X m s).2.h):=by
 refine Wp.out (T:=fun o=>o=some (((f3X m s).1,()),(f3X m s).2.h)) ?_
 unfold a4F
 refine Wp.jn (fun x=>x=((),((d3Z m).j,(lgH (d3Z m).v,((d3Z m).ac,((d3Z m).ms,(esH (d3Z m).bal,((d3Z m).rt,((d3Z m).cl,((d3Z m).ba,(s,(h0U (g1A (I.of .i64 0)),([],())))))))))))) ) ?_ ?_
 ·
  rintro x rfl
  unfold f3X
  have hz:=f5V h
  have hk:a4C K0 ((b0G s,()),())=some ((decide (1≤(b0G s).val∧(b0G s).val≤7),()),()):=by
   refine Wp.out (T:=fun o=>o=some ((decide (1≤(b0G s).val∧(b0G s).val≤7),()),())) ?_
   unfold a4C
   refine Wp.brn (fun q=>?_) (fun q=>?_)
   ·
    have q:(I.of .i64 1).val≤(b0G s).val:=iff_leb.1 q
    have q:1≤(b0G s).val:=q
    show some ((I.leb (b0G s) (I.of .i64 7),()),())=_
    unfold I.leb
    by_cases g:(b0G s).val≤7
    ·
     rw [decide_eq_true (show (b0G s).val≤(I.of .i64 7).val from g),decide_eq_true ⟨q,g⟩]
    ·
     rw [decide_eq_false (show ¬ (b0G s).val≤(I.of .i64 7).val from g),decide_eq_false (fun hh=>g hh.2)]
   ·
    have q:(b0G s).val<(I.of .i64 1).val:=niff_leb.1 q
    have q:(b0G s).val<1:=q
    rw [decide_eq_false (by omega)]
    rfl
  refine Wp.optF hk ?_
  by_cases g:1≤(b0G s).val∧(b0G s).val≤7
  ·
   rw [if_neg (by simp [g])]
   refine Wp.brnF (by rw [decide_eq_true g]; rfl) ?_
   refine Wp.brn (fun q=>?_) (fun q=>?_)
   ·
    have q:I.eqb (b0G s) (I.of .i64 1)=true:=q
    rw [if_pos q]
    exact Wp.optF (h5G (d3Z m) (sTx s) hz hd) rfl
   ·
    have q:I.eqb (b0G s) (I.of .i64 1)=false:=q
    rw [if_neg (a9M q)]
    refine Wp.brn (fun q=>?_) (fun q=>?_)
    ·
     have q:I.eqb (b0G s) (I.of .i64 2)=true:=q
     rw [if_pos q]
     exact Wp.optF (h1G (d3Z m) (h2Y s) hz) rfl
    ·
     have q:I.eqb (b0G s) (I.of .i64 2)=false:=q
     rw [if_neg (a9M q)]
     exact Wp.optF (h2H (d3Z m) s hz hp) rfl
  ·
   rw [if_pos g]
   exact Wp.brnT (by rw [decide_eq_false g]; rfl) rfl
 ·
  intro j hj
  refine Wp.brn (fun q=>?_) (fun q=>?_)
  ·
   have q:I.neb (I.add m.steps (I.of .u64 1)) (I.of .u64 0)=true:=q
   have e:d3Z m={ m with steps:=I.add m.steps (I.of .u64 1) }:=by unfold d3Z; rw [if_pos q]
   exact hj _ (by rw [e]; rfl)
  ·
   have q:I.neb (I.add m.steps (I.of .u64 1)) (I.of .u64 0)=false:=q
   have e:d3Z m=m:=by unfold d3Z; rw [if_neg (a9M q)]
   exact hj _ (by rw [e]; rfl)
end Sym

/- The machine's lists stay small. -/
namespace Sym
open Go
theorem g1D (l:List Pay) (a:I .u64) (n:U):(g5G l a n).length≤l.length+1:=by
 unfold g5G
 split
 ·
  rw [f1O]; omega
 ·
  simp
theorem g1U (b:U) (r:List Hs) (cl:List (I .u64)) (ba:List Pay) (c:Clm):(d4R b r cl ba c).2.2.1.length≤cl.length+1∧(d4R b r cl ba c).2.2.2.length≤ba.length+1:=by
 unfold d4R
 split
 ·
  exact ⟨Nat.le_succ _,Nat.le_succ _⟩
 split
 ·
  exact ⟨Nat.le_succ _,Nat.le_succ _⟩
 split
 ·
  exact ⟨Nat.le_succ _,Nat.le_succ _⟩
 split
 ·
  exact ⟨Nat.le_succ _,Nat.le_succ _⟩
 split
 ·
  exact ⟨Nat.le_succ _,Nat.le_succ _⟩
 split
 ·
  exact ⟨by simp,g1D _ _ _⟩
 ·
  exact ⟨Nat.le_succ _,Nat.le_succ _⟩
theorem f5E (v:V4) (l:List Ac) (a:I .u64) (n:U):(d2A v l a n).2.2.length≤l.length+1:=by
 unfold d2A
 split
 ·
  exact Nat.le_succ _
 split
 ·
  exact d7C _ _ _
 ·
  exact Nat.le_succ _
theorem g0J (l:List Ac) (a b:I .u64) (n:U):(g1T l a b n).2.length≤l.length+2:=by
 unfold g1T
 have h:=c3V l a n
 split
 ·
  show l.length≤_; omega
 split
 ·
  have:=d7C (c4F l a n) b n
  show (d1Z _ _ _).length≤_
  omega
 ·
  show (c4F _ _ _).length≤_; omega
theorem g2Q (l:List Ac) (a:I .u64) (n:U):(f0V l a n).2.length≤l.length+1:=by
 unfold f0V
 split
 ·
  exact Nat.le_succ _
 ·
  exact c3V _ _ _
def f3P (r:Rcp):List Msg:=r.2.2.2.2.2.2.2.2.1
theorem e0T {n:Nat} {m:MS} (h:Sz n m) (t:Txn) (c:Chg) (u:I .u64):Sz (n+5) (f1Q m t c (a8N m.pr u).1):=by
 have l1:(e5V m (a3V t) c).2.2.length≤m.ac.length+1:=b9D _ _ _ _ _
 have l2:(e5X m (a3V t) c).2.2.length≤(e5V m (a3V t) c).2.2.length+1:=b9D _ _ _ _ _
 have l3:(e5J m (a3V t) c).2.2.length≤(e5X m (a3V t) c).2.2.length+1:=b9D _ _ _ _ _
 have l4:(d6U m (a3V t) c).2.2.length≤(e5J m (a3V t) c).2.2.length+1:=b9D _ _ _ _ _
 have l5:(d7Y m (a3V t) c).length≤(d6U m (a3V t) c).2.2.length+1:=e9D _ _
 have hac:=h.ac
 have hu:=d2X m.pr u
 have hpr:=h.pr
 exact ⟨by show (d7Y m (a3V t) c).length≤_; omega,Nat.le_add_right_of_le h.ms,Nat.le_add_right_of_le h.rt,Nat.le_add_right_of_le h.cl,Nat.le_add_right_of_le h.ba,by show (a8N m.pr u).1.posters.length≤_; omega⟩
theorem g8A {n:Nat} {m:MS} (h:Sz n m) (t:Txn) (c:Chg) (p:U):Sz (n+2) (g9Q m t c p).2∧(f3P (g9Q m t c p).1).length≤1:=by
 unfold g9Q
 have hac:=h.ac
 split
 ·
  have:=g0J m.ac (a3V t) (tTo t) (d3S t)
  exact ⟨⟨by show (g1T _ _ _ _).2.length≤_; omega,Nat.le_add_right_of_le h.ms,Nat.le_add_right_of_le h.rt,Nat.le_add_right_of_le h.cl,Nat.le_add_right_of_le h.ba,Nat.le_add_right_of_le h.pr⟩,Nat.zero_le _⟩
 split
 ·
  exact ⟨h.mono (by omega),Nat.zero_le _⟩
 ·
  have:=g2Q m.ac (a3V t) (d3S t)
  refine ⟨f0G (k:=n+1) (m:={ m with ac:=(f0V m.ac (a3V t) (d3S t)).2 }) ⟨by show (f0V _ _ _).2.length≤_; omega,Nat.le_succ_of_le h.ms,Nat.le_succ_of_le h.rt,Nat.le_succ_of_le h.cl,Nat.le_succ_of_le h.ba,Nat.le_succ_of_le h.pr⟩ _ _,Nat.le_refl _⟩
theorem h0R {n:Nat} {m:MS} (h:Sz n m) (t:Txn):Sz (n+7) (txS m t).2∧(f3P (txS m t).1).length≤1:=by
 unfold txS
 split
 ·
  exact ⟨h.mono (by omega),Nat.zero_le _⟩
 split
 ·
  exact ⟨h.mono (by omega),Nat.zero_le _⟩
 split
 ·
  exact ⟨h.mono (by omega),Nat.zero_le _⟩
 split
 ·
  exact ⟨(e0T h t _ _).mono (by omega),Nat.zero_le _⟩
 split
 ·
  exact ⟨(e0T h t _ _).mono (by omega),Nat.zero_le _⟩
 ·
  exact g8A (e0T h t _ _) t _ _
theorem g8E {n:Nat} {m:MS} (h:Sz n m) (r:RepT):Sz (n+128) (f8Y m r).2∧(f3P (f8Y m r).1).length≤64:=by
 unfold f8Y
 have hlen:=f4S m.pr m.pm (f3J m.v 2) r m.bk.2.1
 have hpl:(c4U m r).length≤64:=hlen.2
 split
 ·
  exact ⟨h.mono (by omega),Nat.zero_le _⟩
 ·
  have h0:Sz (n+64) { m with pr:=(d6X m r).1 }:=⟨Nat.le_add_right_of_le h.ac,Nat.le_add_right_of_le h.ms,Nat.le_add_right_of_le h.rt,Nat.le_add_right_of_le h.cl,Nat.le_add_right_of_le h.ba,Nat.le_trans hlen.1 (by omega)⟩
  obtain ⟨h1,h2⟩:=e1N h0 (c4U m r) (c4U m r).length (Nat.le_refl _)
  rw [List.take_length] at h1 h2
  exact ⟨h1.mono (by omega),by show (c6F _ _).2.length≤_; omega⟩
theorem g6W {n:Nat} {m:MS} (h:Sz n m) (s:c5B):Sz (n+1) (g2F m s).2:=by
 have h1:Sz (n+1) m:=h.mono (by omega)
 unfold g2F
 split
 ·
  split
  ·
   exact ⟨h1.ac,h1.ms,h1.rt,h1.cl,h1.ba,h1.pr⟩
  ·
   exact h1
 split
 ·
  split
  ·
   exact ⟨h1.ac,h1.ms,h1.rt,h1.cl,h1.ba,h1.pr⟩
  ·
   exact h1
 split
 ·
  split
  ·
   have:=e1K m.pr (d7O s)
   have:=h.pr
   exact ⟨h1.ac,h1.ms,h1.rt,h1.cl,h1.ba,by show (a9R m.pr (d7O s)).1.posters.length≤_; omega⟩
  ·
   exact h1
 split
 ·
  split
  ·
   exact h1
  split
  ·
   have:=f5E m.v m.ac (d7O s) (d7P s)
   have:=h.ac
   exact ⟨by show (d2A _ _ _ _).2.2.length≤_; omega,h1.ms,h1.rt,h1.cl,h1.ba,h1.pr⟩
  ·
   exact h1
 ·
  obtain ⟨g1,g2⟩:=g1U m.bal m.rt m.cl m.ba (f8Z s)
  have:=h.cl
  have:=h.ba
  exact ⟨h1.ac,h1.ms,h1.rt,by show (d4R _ _ _ _ _).2.2.1.length≤_; omega,by show (d4R _ _ _ _ _).2.2.2.length≤_; omega,h1.pr⟩
theorem f5H {n:Nat} {m:MS} (h:Sz n m) (s:c5B):Sz (n+128) (f3X m s).2∧(f3P (f3X m s).1).length≤64:=by
 unfold f3X
 have hz:=f5V h
 split
 ·
  exact ⟨hz.mono (by omega),Nat.zero_le _⟩
 split
 ·
  obtain ⟨g1,g2⟩:=h0R hz (sTx s)
  exact ⟨g1.mono (by omega),Nat.le_trans g2 (by decide)⟩
 split
 ·
  exact g8E hz (h2Y s)
 ·
  exact ⟨(g6W hz s).mono (by omega),Nat.zero_le _⟩
end Sym

/- Steps that a number determines: they exist, and are small. -/
namespace Sym
open Go
structure StG (calm:Bool) (n:Nat) (s:c5B):Prop where
 data:(c6N (sTx s)).length≤1000
 prf:(d8B (f8Z s)).length≤n+1
 dep:calm=true→I.eqb (b0G s) (I.of .i64 6)=true→(d7P s).val<1152921504606846976
theorem h3P (x:I .u64):U.val (x,((I.of .u64 0),((I.of .u64 0),((I.of .u64 0),()))))=x.nat:=by
 show x.nat+18446744073709551616*(0+18446744073709551616*(0+18446744073709551616*0))=x.nat
 omega
theorem f1E {a m:I .i64} (h:0≤a.val) (h2:0<m.val):(I.conv (k:=.i64) .u64 (I.rem a m)).nat<m.val.toNat:=by
 have e:=b9N h h2
 have h3:=Int.emod_nonneg a.val (b:=m.val) (by omega)
 have h4:=Int.emod_lt_of_pos a.val h2
 have hm:=b6K m
 have hv:(I.conv (k:=.i64) .u64 (I.rem a m)).val=a.val%m.val:=by
  unfold I.conv
  rw [e]
  exact b8W ⟨h3,by omega⟩
 have:=a2G (I.conv (k:=.i64) .u64 (I.rem a m))
 omega
theorem c7G {a:I .i64} (h:0≤a.val):U.val ((I.add (I.of .u64 4503599627370496) (I.conv (k:=.i64) .u64 (I.rem a (I.of .i64 100000)))),((I.of .u64 0),((I.of .u64 0),((I.of .u64 0),()))))<1152921504606846976:=by
 rw [h3P]
 have h1:(I.conv (k:=.i64) .u64 (I.rem a (I.of .i64 100000))).nat<100000:=f1E h (by decide)
 have c:(I.of .u64 4503599627370496).nat=4503599627370496:=rfl
 rw [c8G _ _ (by omega)]
 omega
theorem f2C {a:I .i64} (h:0≤a.val):U.val ((I.conv (k:=.i64) .u64 (I.rem a (I.of .i64 50))),((I.of .u64 0),((I.of .u64 0),((I.of .u64 0),()))))<1152921504606846976:=by
 rw [h3P]
 have h1:(I.conv (k:=.i64) .u64 (I.rem a (I.of .i64 50))).nat<50:=f1E h (by decide)
 omega
def g1V (calm:Bool) (n:Nat) (o:Option ((⟨[.pl a0V],[]⟩:Tm).D)):Prop:=∃ s:c5B,o=some ((s,()),())∧StG calm n s
theorem f3B (a:I .i64) (b:I .u64) (c:Bool) (n:Nat) (h:0≤a.val):g1V c n (b1L K0 ((a,(b,(c,()))),())):=by
 refine Wp.out (T:=fun o=>g1V c n o) ?_
 unfold b1L
 have z:([]:List (I .u8)).length≤1000:=Nat.zero_le _
 have z2:([]:List Hs).length≤n+1:=Nat.zero_le _
 refine Wp.brn (fun _=>⟨_,rfl,z,z2,fun _ _=>c7G h⟩) (fun _=>?_)
 refine Wp.brn (fun _=>⟨_,rfl,z,z2,fun _ _=>c7G h⟩) (fun _=>?_)
 refine Wp.brn (fun _=>⟨_,rfl,z,z2,fun _ _=>c7G h⟩) (fun _=>?_)
 refine Wp.brn (fun _=>⟨_,rfl,z,z2,fun _ _=>f2C h⟩) (fun _=>?_)
 refine Wp.brn (fun _=>?_) (fun _=>⟨_,rfl,z,z2,fun _ _=>c7G h⟩)
 refine Wp.brn (fun hc=>⟨_,rfl,z,z2,fun g _=>?_⟩) (fun _=>⟨_,rfl,z,z2,fun _ _=>c7G h⟩)
 have hc:c=false:=h8A hc
 rw [hc] at g
 cases g
theorem g1Q (a:I .i64) (c:Bool) (n:Nat) (h:0≤a.val):g1V c n (b3Y K0 ((a,()),())):=by
 refine Wp.out (T:=fun o=>g1V c n o) ?_
 unfold b3Y
 have z:([]:List (I .u8)).length≤1000:=Nat.zero_le _
 have z2:([]:List Hs).length≤n+1:=Nat.zero_le _
 have e:=b9N (b:=I.of .i64 12) h (by decide)
 have c12:(I.of .i64 12).val=12:=rfl
 refine Wp.brnT (iff_inB.2 (by show 0≤(I.rem a (I.of .i64 12)).val∧(I.rem a (I.of .i64 12)).val<((12:Nat):Int); rw [e,c12]; omega)) ?_
 refine Wp.jn (fun x=>(c6N (sTx x.2.2.1)).length≤1000∧(d8B (f8Z x.2.2.1)).length≤n+1∧I.eqb (b0G x.2.2.1) (I.of .i64 6)=false) ?_ ?_
 ·
  rintro ⟨x0,x1,s,⟨⟩⟩ ⟨h1,h2,h3⟩
  have h3:I.eqb (b0G s) (I.of .i64 6)=false:=h3
  refine Wp.brn (fun _=>⟨_,rfl,h1,h2,fun _ g=>?_⟩) (fun _=>⟨_,rfl,h1,h2,fun _ g=>?_⟩)
  ·
   have g:I.eqb (b0G s) (I.of .i64 6)=true:=g
   rw [h3] at g; cases g
  ·
   have g:I.eqb (b0G s) (I.of .i64 6)=true:=g
   rw [h3] at g; cases g
 ·
  intro j hj
  exact Wp.brn (fun _=>hj _ ⟨z,z2,rfl⟩) (fun _=>hj _ ⟨z,z2,rfl⟩)
theorem f5L (a:I .i64) (m:MS):∃ r:RepT,b2Z K0 ((a,()),m.h)=some ((r,()),m.h):=by
 refine Wp.out (T:=fun o=>∃ r:RepT,o=some ((r,()),m.h)) ?_
 unfold b2Z
 have hnz:I.nz (I.add (I.mn (I.sub m.bk.2.1 m.pr.2.2.1) (I.of .u64 1099511627776)) (I.of .u64 2))=true:=by
  have h1:=h2A (I.sub m.bk.2.1 m.pr.2.2.1) (I.of .u64 1099511627776)
  have c1:(I.of .u64 1099511627776).nat=1099511627776:=rfl
  have c2:(I.of .u64 2).nat=2:=rfl
  have h2:=c8G (I.mn (I.sub m.bk.2.1 m.pr.2.2.1) (I.of .u64 1099511627776)) (I.of .u64 2) (by omega)
  refine iff_nz.2 ?_
  have:=a2G (I.add (I.mn (I.sub m.bk.2.1 m.pr.2.2.1) (I.of .u64 1099511627776)) (I.of .u64 2))
  omega
 refine Wp.brnT hnz ?_
 exact Wp.brn (fun _=>⟨_,rfl⟩) (fun _=>Wp.brn (fun _=>⟨_,rfl⟩) (fun _=>Wp.brn (fun _=>⟨_,rfl⟩) (fun _=>⟨_,rfl⟩)))
theorem f2Y (a:I .i64):Tot (b2P K0 ((a,()),())):=by
 refine Wp.out (T:=fun o=>Tot o) ?_
 unfold b2P
 refine Wp.iter (fun x=>∃ i,i≤8∧x.1.2.1=i6 i) (fun x=>8-x.1.2.1.val.toNat) ?_ ⟨0,by omega,rfl⟩ (by rw [a6Z]; show 8-0<_; decide)
 rintro ⟨⟨b,j,⟨⟩⟩,x2⟩ ⟨q,hq,e2⟩
 simp only at e2
 subst e2
 refine Wp.brn (fun hc=>?_) (fun hc=>Wp.done ⟨_,rfl⟩)
 have hc:q<8:=by have:=iff_ltb.1 hc; simp only [a0Q (show q<9223372036854775808 by omega),show (I.of .i64 8).val=8 from rfl] at this; omega
 have hn:I.add (i6 q) (I.of .i64 1)=i6 (q+1):=a2K (m:=1) (by omega)
 refine Wp.brnT (c4P _) (Wp.brnT (a3H (by omega) (by omega)) ?_)
 refine Wp.again ⟨q+1,by omega,hn⟩ ?_
 show 8-(I.add (i6 q) (I.of .i64 1)).val.toNat<8-(i6 q).val.toNat
 rw [hn,a0Q (by omega),a0Q (by omega)]; omega
end Sym

/- Steps that a number determines, continued. -/
namespace Sym
open Go
theorem e9L {a:I .i64} {n:Nat} (h:0≤a.val) (hn:0<n) (hn2:n<9223372036854775808):∃ k,I.rem a (i6 n)=i6 k∧k<n:=by
 have e:=b9N (b:=i6 n) h (by rw [a0Q hn2]; omega)
 rw [a0Q hn2] at e
 have h3:=Int.emod_nonneg a.val (b:=(n:Int)) (by omega)
 have h4:=Int.emod_lt_of_pos a.val (b:=(n:Int)) (by omega)
 refine ⟨(a.val%(n:Int)).toNat,?_,by omega⟩
 apply I.ext'
 rw [e,a0Q (by omega)]
 omega
theorem f4Y {a m:I .i64} (h:0≤a.val) (h2:0<m.val):0≤(I.quo a m).val:=by
 rw [c1Q h h2]
 exact Int.ediv_nonneg h (by omega)
theorem d8E (a:I .i64) (b:I .u64) (m:MS) (h:0≤a.val) (hs:Sz 100000000 m):∃ t:Txn,a8T K0 ((a,(b,())),m.h)=some ((t,()),m.h)∧(c6N t).length≤1000:=by
 refine Wp.out (T:=fun o=>∃ t:Txn,o=some ((t,()),m.h)∧(c6N t).length≤1000) ?_
 unfold a8T
 have hac:=hs.ac
 refine Wp.optF (e3O m.ac (lgH m.v).2 b (by omega)) ?_
 obtain ⟨k6,e6,hk6⟩:=e9L (n:=6) h (by omega) (by omega)
 refine Wp.brnT (by show inB (I.rem a (i6 6)) 6=true; rw [e6]; exact a3H hk6 (by omega)) ?_
 obtain ⟨r1,e1,B1⟩:=a1I (e7W m.bk)
 obtain ⟨r2,e2,B2⟩:=a1N (I.conv (k:=.i64) .u64 (I.add (I.of .i64 1) (I.rem a (I.of .i64 3))))
 obtain ⟨r3,e3,B3⟩:=b3I B1 B2 (f2J B1) (e3E B2)
 have h3:(e7W m.bk).val*(I.conv (k:=.i64) .u64 (I.add (I.of .i64 1) (I.rem a (I.of .i64 3)))).nat<P40:=by
  have h3:=Nat.mul_le_mul (Nat.le_of_lt (U.lt (e7W m.bk))) (Nat.le_of_lt (a3A (I.conv (k:=.i64) .u64 (I.add (I.of .i64 1) (I.rem a (I.of .i64 3))))))
  exact Nat.lt_of_le_of_lt h3 (by decide +kernel)
 have e4:=c7L B3 (lenK' B3 h3)
 refine Wp.optF e1 (Wp.optF e2 (Wp.optF e3 (Wp.optF e4 ?_)))
 obtain ⟨k5,e5,hk5⟩:=e9L (a:=I.quo a (I.of .i64 5)) (n:=5) (f4Y h (by decide)) (by omega) (by omega)
 have e5:I.rem (I.quo a (I.of .i64 5)) (I.of .i64 5)=i6 k5:=e5
 refine Wp.brnT (by show inB' (I.rem (I.quo a (I.of .i64 5)) (I.of .i64 5)) 4=true; rw [e5]; exact i6_inB' (by omega) (by omega)) ?_
 obtain ⟨out,ho,hol⟩:=d0F (a3T (a::((I.quo a (I.of .i64 3))::((I.quo a (I.of .i64 7))::((I.quo a (I.of .i64 11))::[])))) 0 (I.nat (I.rem (I.quo a (I.of .i64 5)) (I.of .i64 5)))) (by rw [c0P]; show min _ (4-0)≤_; omega)
 have hol:out.length≤1000:=by
  rw [c0P] at hol
  have:∀ z,min z ((a::((I.quo a (I.of .i64 3))::((I.quo a (I.of .i64 7))::((I.quo a (I.of .i64 11))::[])))).length-0)≤4:=fun z=>by show min z (4-0)≤4; omega
  have:=this (I.nat (I.rem (I.quo a (I.of .i64 5)) (I.of .i64 5)))
  omega
 refine Wp.optF ho ?_
 refine Wp.brn (fun _=>⟨_,rfl,hol⟩) (fun _=>Wp.brn (fun _=>⟨_,rfl,hol⟩) (fun _=>Wp.brn (fun _=>⟨_,rfl,hol⟩) (fun _=>Wp.brn (fun _=>⟨_,rfl,hol⟩) (fun _=>Wp.brn (fun _=>⟨_,rfl,hol⟩) (fun _=>Wp.brn (fun _=>Wp.tot ⟨_,rfl⟩ fun _=>Wp.tot ⟨_,rfl⟩ fun _=>⟨_,rfl,hol⟩) (fun _=>Wp.brn (fun _=>⟨_,rfl,hol⟩) (fun _=>⟨_,rfl,hol⟩)))))))
theorem g0Y (a:I .i64) (m:MS) (h:0≤a.val) (hs:Sz 100000000 m):∃ c:Clm,b3U K0 ((a,()),m.h)=some ((c,()),m.h)∧(d8B c).length≤m.ms.length+1:=by
 refine Wp.out (T:=fun o=>∃ c:Clm,o=some ((c,()),m.h)∧(d8B c).length≤m.ms.length+1) ?_
 unfold b3U
 have hl:=hs.ms
 have e0:I.eqb (I.ofNat .i64 (a0K m.ms)) (I.of .i64 0)=decide (m.ms.length=0):=e3H (n:=m.ms.length) (m:=0) (by omega) (by omega)
 refine Wp.brn (fun _=>⟨_,rfl,Nat.zero_le _⟩) (fun h0=>?_)
 have h0:I.eqb (I.ofNat .i64 (a0K m.ms)) (I.of .i64 0)=false:=h0
 rw [e0] at h0
 have h0:=of_decide_eq_false h0
 have nz6:∀ n:Nat,n≠0→n<9223372036854775808→I.nz (i6 n)=true:=fun n h1 h2=>iff_nz.2 (by rw [a0Q h2]; omega)
 refine Wp.brnT (nz6 m.ms.length h0 (by omega)) ?_
 obtain ⟨k,ek,hk⟩:=e9L (n:=m.ms.length) h (by omega) (by omega)
 have ek:I.rem a (I.ofNat .i64 (a0K m.ms))=i6 k:=ek
 have es:I.sub (I.ofNat .i64 (a0K m.ms)) (I.rem a (I.ofNat .i64 (a0K m.ms)))=i6 (m.ms.length-k):=by rw [ek]; exact c2V (n:=m.ms.length) (by omega) (by omega)
 refine Wp.brnT (by show I.nz (I.sub (I.ofNat .i64 (a0K m.ms)) (I.rem a (I.ofNat .i64 (a0K m.ms))))=true; rw [es]; exact nz6 _ (by omega) (by omega)) ?_
 obtain ⟨q,eq,hq⟩:=e9L (a:=I.quo a (I.of .i64 7)) (n:=m.ms.length-k) (f4Y h (by decide)) (by omega) (by omega)
 have en:I.add (I.add (I.rem a (I.ofNat .i64 (a0K m.ms))) (I.of .i64 1)) (I.rem (I.quo a (I.of .i64 7)) (I.sub (I.ofNat .i64 (a0K m.ms)) (I.rem a (I.ofNat .i64 (a0K m.ms)))))=i6 (k+1+q):=by
  rw [es,eq,ek,show I.add (i6 k) (I.of .i64 1)=i6 (k+1) from a2K (m:=1) (by omega)]
  exact a2K (by omega)
 obtain ⟨y,hy,bb,o,rfl,ho⟩:=e7V m.ms (I.rem a (I.ofNat .i64 (a0K m.ms))) (k+1+q) (by omega) (by omega)
 rw [← en] at hy
 have hin:inB (I.rem a (I.ofNat .i64 (a0K m.ms))) (a0K m.ms)=true:=by rw [ek]; exact a3H hk (by omega)
 have ho1:o.length≤m.ms.length+1:=by omega
 refine Wp.optF hy (Wp.brnT hin (Wp.brnT hin ?_))
 refine Wp.brn (fun _=>?_) (fun _=>Wp.brn (fun _=>⟨_,rfl,ho1⟩) (fun _=>Wp.brn (fun _=>?_) (fun _=>Wp.brn (fun _=>?_) (fun _=>⟨_,rfl,ho1⟩))))
 ·
  obtain ⟨r1,f1,B1⟩:=a1I (rdL a0I m.ms (I.nat (I.rem a (I.ofNat .i64 (a0K m.ms))))).2.2.1
  obtain ⟨r2,f2,B2⟩:=a1N (I.of .u64 1)
  obtain ⟨r3,f3,B3⟩:=b3H B1 B2 (f2J B1) (e3E B2)
  refine Wp.optF f1 (Wp.optF f2 (Wp.optF f3 (Wp.optF (y:=((((I.of .u64 18446744073709551615),((I.of .u64 18446744073709551615),((I.of .u64 18446744073709551615),((I.of .u64 18446744073709551615),())))),()),())) rfl ?_)))
  obtain ⟨r5,f5,B5⟩:=a1I (((I.of .u64 18446744073709551615),((I.of .u64 18446744073709551615),((I.of .u64 18446744073709551615),((I.of .u64 18446744073709551615),())))))
  have hlt:=U.lt (rdL a0I m.ms (I.nat (I.rem a (I.ofNat .i64 (a0K m.ms))))).2.2.1
  have c1:(I.of .u64 1).nat=1:=rfl
  obtain ⟨y6,f6,r6,rfl,B6⟩:=e8M B3 B5 (g0X B3 (by rw [c1]; have:U.top=115792089237316195423570985008687907853269984665640564039457584007913129639936:=rfl; omega)) (f2J B5)
  have f7:=c7L B6 (g0X B6 (by rw [c1]; have:U.top=115792089237316195423570985008687907853269984665640564039457584007913129639936:=rfl; omega))
  exact Wp.optF f5 (Wp.optF f6 (Wp.optF f7 ⟨_,rfl,ho1⟩))
 ·
  refine Wp.tot (f2Y a) fun y1=>Wp.brnT (b4Q _ _ (by show o.length+1≤_; omega)) ⟨_,rfl,?_⟩
  show (a2C o [_]).length≤_
  rw [a9E]
  show o.length+1≤_
  omega
 ·
  have e3:I.add (I.ofNat .i64 (a0K m.ms)) (I.of .i64 3)=i6 (m.ms.length+3):=a2K (n:=m.ms.length) (m:=3) (by omega)
  refine Wp.brnT (by show I.nz (I.add (I.ofNat .i64 (a0K m.ms)) (I.of .i64 3))=true; rw [e3]; exact nz6 _ (by omega) (by omega)) ⟨_,rfl,ho1⟩
end Sym

/- A run's next step; a run. -/
namespace Sym
open Go
def h1Y (calm:Bool) (m:MS) (o:Option ((⟨[.pl a0V],a0F⟩:Tm).D)):Prop:=∃ s:c5B,o=some ((s,()),m.h)∧StG calm m.ms.length s
theorem g7L (k:I .i64) (calm:Bool) (m:MS) (hs:Sz 100000000 m):h1Y calm m (b0L K0 ((k,(calm,())),m.h)):=by
 refine Wp.out (T:=fun o=>h1Y calm m o) ?_
 unfold b0L
 obtain ⟨x,hx,x0,_⟩:=f4D k (I.of .i64 4611686018427387904) (by decide)
 refine Wp.optF hx ?_
 have z:([]:List (I .u8)).length≤1000:=Nat.zero_le _
 have z2:([]:List Hs).length≤m.ms.length+1:=Nat.zero_le _
 have n6:∀ (k:I .i64),k.val≠6→I.eqb k (I.of .i64 6)=true→False:=fun k h g=>h (iff_eqb.1 g)
 refine Wp.jn (fun w=>∃ (ad:I .u64) (n r:I .i64) (f:Bool) (y:c5B),0≤n.val∧w=((calm,(ad,(n,(r,(f,()))))),(m.j,(lgH m.v,(m.ac,(m.ms,(esH m.bal,(m.rt,(m.cl,(m.ba,(y,()))))))))))) ?_ ?_
 ·
  rintro w ⟨ad,n,r,f,y,hn,rfl⟩
  refine Wp.brn (fun _=>?_) (fun _=>?_)
  ·
   obtain ⟨s,e,g⟩:=f3B n ad calm m.ms.length hn
   exact Wp.optF e ⟨s,rfl,g⟩
  refine Wp.jn (fun w=>∃ (ad:I .u64) (n r:I .i64) (f:Bool) (y:c5B),0≤n.val∧w=((ad,(n,(r,(f,())))),(m.j,(lgH m.v,(m.ac,(m.ms,(esH m.bal,(m.rt,(m.cl,(m.ba,(y,()))))))))))) ?_ ?_
  ·
   rintro w ⟨ad,n,r,f,y,hn,rfl⟩
   refine Wp.brn (fun _=>?_) (fun _=>?_)
   ·
    obtain ⟨q,e⟩:=f5L n m
    exact Wp.optF e ⟨_,rfl,z,z2,fun _ g=>(n6 (I.of .i64 2) (by decide) g).elim⟩
   refine Wp.brn (fun _=>Wp.brn (fun _=>⟨_,rfl,z,z2,fun _ g=>(n6 (I.of .i64 3) (by decide) g).elim⟩) (fun _=>⟨_,rfl,z,z2,fun _ g=>(n6 (I.of .i64 3) (by decide) g).elim⟩)) (fun _=>?_)
   refine Wp.brn (fun _=>?_) (fun _=>?_)
   ·
    obtain ⟨s,e,g⟩:=g1Q n calm m.ms.length hn
    exact Wp.optF e ⟨s,rfl,g⟩
   refine Wp.brn (fun _=>Wp.brn (fun _=>⟨_,rfl,z,z2,fun _ g=>(n6 (I.of .i64 5) (by decide) g).elim⟩) (fun _=>⟨_,rfl,z,z2,fun _ g=>(n6 (I.of .i64 5) (by decide) g).elim⟩)) (fun _=>?_)
   refine Wp.jn (fun w=>∃ (ad:I .u64) (n:I .i64) (f:Bool) (y:c5B),0≤n.val∧w=((ad,(n,(f,()))),(m.j,(lgH m.v,(m.ac,(m.ms,(esH m.bal,(m.rt,(m.cl,(m.ba,(y,()))))))))))) ?_ ?_
   ·
    rintro w ⟨ad,n,f,y,hn,rfl⟩
    refine Wp.brn (fun _=>?_) (fun _=>?_)
    ·
     obtain ⟨c,e,hc⟩:=g0Y n m hn hs
     exact Wp.optF e ⟨_,rfl,z,hc,fun _ g=>(n6 (I.of .i64 7) (by decide) g).elim⟩
    ·
     obtain ⟨t,e,ht⟩:=d8E n ad m hn hs
     exact Wp.optF e ⟨_,rfl,ht,z2,fun _ g=>(n6 (I.of .i64 1) (by decide) g).elim⟩
   ·
    intro j hj
    exact Wp.brn (fun _=>hj _ ⟨_,_,_,_,hn,rfl⟩) (fun _=>hj _ ⟨_,_,_,_,hn,rfl⟩)
  ·
   intro j hj
   exact Wp.brn (fun _=>hj _ ⟨_,_,_,_,_,hn,rfl⟩) (fun _=>hj _ ⟨_,_,_,_,_,hn,rfl⟩)
 ·
  intro j hj
  have hq:0≤(I.quo x (I.of .i64 64)).val:=f4Y x0 (by decide)
  exact Wp.brn (fun _=>hj _ ⟨_,_,_,_,_,hq,rfl⟩) (fun _=>hj _ ⟨_,_,_,_,_,hq,rfl⟩)
noncomputable def h7W:Prm:=(((I.of .u64 7000000),((I.of .u64 10),((I.of .u64 102),(((I.of .u64 100000000),((I.of .u64 0),((I.of .u64 0),((I.of .u64 0),())))),((I.of .u64 32000000),(((I.of .u64 60000000),((I.of .u64 0),((I.of .u64 0),((I.of .u64 0),())))),((I.of .u64 1000),(((I.of .u64 10),((I.of .u64 0),((I.of .u64 0),((I.of .u64 0),())))),((I.of .u64 160000000),((I.of .u64 10),((I.of .u64 16),((I.of .u64 65536),())))))))))))))
noncomputable def ms0:MS:=⟨I.of .u64 0,h7W,(I.of .u64 1,(I.of .u64 0,(I.of .u64 0,(((I.of .u64 100000000),((I.of .u64 0),((I.of .u64 0),((I.of .u64 0),())))),())))),I.of .u64 0,(((I.of .u64 1000000000),((I.of .u64 0),((I.of .u64 0),((I.of .u64 0),())))),((I.of .u64 0),((I.of .u64 0),((I.of .u64 0),(a2T,([],())))))),d0V,[],[],Z_U,[],[],[]⟩
theorem h1S:b9S K0 ((),())=some ((),ms0.h):=by
 rw [a6Z]; kernel_rfl
noncomputable abbrev zTx:Txn:=((I.of .u64 0),((I.of .u64 0),((I.of .u64 0),(Z_U,((I.of .u64 0),(Z_U,(Z_U,((I.of .u64 0),([],())))))))))
noncomputable abbrev h3C:Clm:=((I.of .u64 0),((I.of .u64 0),((I.of .u64 0),(Z_U,([],())))))
noncomputable def h0I (a:Nat):c5B:=(I.of .i64 6,(zTx,(a0I,(I.of .u64 0,(I.of .i64 0,(((I.of .u64 288230376151711744),((I.of .u64 0),((I.of .u64 0),((I.of .u64 0),())))),(I.of .u64 (a:Int),(h3C,()))))))))
noncomputable def h2Z (a:Nat):c5B:=(I.of .i64 5,(zTx,(a0I,(I.of .u64 0,(I.of .i64 0,(Z_U,(I.of .u64 (a:Int),(h3C,()))))))))
noncomputable def g9E:c5B:=(I.of .i64 3,(zTx,(a0I,(I.of .u64 12,(I.of .i64 0,(Z_U,(I.of .u64 0,(h3C,()))))))))
noncomputable def setupL:List c5B:=[h0I 1,h0I 2,h0I 3,h0I 4,h2Z 5,h2Z 6,h2Z 7,g9E]
theorem g1Y:b2C K0 ((),())=some ((),(setupL,())):=by
 rw [a6Z]; kernel_rfl
theorem d9U (calm:Bool) (n:Nat):∀ s∈setupL,StG calm n s:=by
 have z:([]:List (I .u8)).length≤1000:=Nat.zero_le _
 have z2:([]:List Hs).length≤n+1:=Nat.zero_le _
 have d:∀ a,StG calm n (h0I a):=fun a=>⟨z,z2,fun _ _=>by show U.val (_,_)<_; rw [h3P]; decide⟩
 have p:∀ a,StG calm n (h2Z a):=fun a=>⟨z,z2,fun _ g=>by have:(5:Int)=6:=iff_eqb.1 g; omega⟩
 have t:StG calm n g9E:=⟨z,z2,fun _ g=>by have:(3:Int)=6:=iff_eqb.1 g; omega⟩
 intro s hs
 simp only [setupL,List.mem_cons,List.not_mem_nil,or_false] at hs
 rcases hs with rfl | rfl | rfl | rfl | rfl | rfl | rfl | rfl
 ·
  exact d 1
 ·
  exact d 2
 ·
  exact d 3
 ·
  exact d 4
 ·
  exact p 5
 ·
  exact p 6
 ·
  exact p 7
 ·
  exact t
noncomputable def c9M (s:MS×List Rcp) (x:c5B):MS×List Rcp:=((f3X s.1 x).2,s.2++[(f3X s.1 x).1])
noncomputable def e8H (m:MS) (l:List c5B):MS×List Rcp:=l.foldl c9M (m,[])
theorem d6R (m:MS) (l:List c5B) (x:c5B):e8H m (l++[x])=c9M (e8H m l) x:=by
 unfold e8H
 rw [List.foldl_append]
 rfl
theorem f1J (m:MS) (l:List c5B):(e8H m l).2.length=l.length:=by
 suffices h:∀ (l:List c5B) (s:MS×List Rcp),(l.foldl c9M s).2.length=s.2.length+l.length by
  show (List.foldl c9M (m,[]) l).2.length=_
  rw [h l (m,[])]
  exact Nat.zero_add _
 intro l
 induction l with
 | nil=>intro s; rfl
 | cons x l ih =>
  intro s
  rw [List.foldl_cons,ih]
  show (s.2++[_]).length+l.length=s.2.length+(l.length+1)
  rw [List.length_append]
  simp
  omega
end Sym

/- A run of the reference. -/
namespace Sym
open Go
structure RunOk (calm:Bool) (k:Nat) (l:List c5B) (p:MS×List Rcp):Prop where
 run:p=e8H ms0 l
 len:l.length=8+k
 sz:Sz (128*(8+k)) p.1
 good:∀ s∈l,StG calm (128*(8+k)) s
 msgs:∀ r∈p.2,(f3P r).length≤64
theorem StG.mono {calm:Bool} {n k:Nat} {s:c5B} (h:StG calm n s) (hk:n≤k):StG calm k s:=⟨h.data,by have:=h.prf; omega,h.dep⟩
theorem d9X (calm:Bool):∀ i,i≤8→Sz (128*i) (e8H ms0 (setupL.take i)).1∧∀ r∈(e8H ms0 (setupL.take i)).2,(f3P r).length≤64
 | 0,_=>⟨⟨Nat.le_refl _,Nat.le_refl _,Nat.le_refl _,Nat.le_refl _,Nat.le_refl _,Nat.le_refl _⟩,fun r h=>by cases h⟩
 | i+1,hi=>by
  obtain ⟨h1,h2⟩:=d9X calm i (by omega)
  have hl:i<setupL.length:=by show i<8; omega
  rw [List.take_add_one,List.getElem?_eq_getElem hl]
  simp only [Option.toList]
  rw [d6R]
  obtain ⟨g1,g2⟩:=f5H h1 setupL[i]
  refine ⟨g1.mono (by omega),fun r hr=>?_⟩
  have hr:r∈(e8H ms0 (setupL.take i)).2++[(f3X (e8H ms0 (setupL.take i)).1 setupL[i]).1]:=hr
  rcases List.mem_append.1 hr with h | h
  ·
   exact h2 r h
  ·
   rw [List.mem_singleton.1 h]; exact g2
theorem RunOk.snoc {calm:Bool} {k:Nat} {l:List c5B} {p:MS×List Rcp} (h:RunOk calm k l p) {s:c5B} (hs:StG calm p.1.ms.length s):RunOk calm (k+1) (l++[s]) (c9M p s):=by
 obtain ⟨g1,g2⟩:=f5H h.sz s
 refine ⟨by rw [d6R,← h.run],by rw [List.length_append,h.len]; rfl,g1.mono (by omega),fun x hx=>?_,fun r hr=>?_⟩
 ·
  rcases List.mem_append.1 hx with h' | h'
  ·
   exact (h.good x h').mono (by omega)
  ·
   rw [List.mem_singleton.1 h']; exact hs.mono (by have:=h.sz.ms; omega)
 ·
  have hr:r∈p.2++[(f3X p.1 s).1]:=hr
  rcases List.mem_append.1 hr with h' | h'
  ·
   exact h.msgs r h'
  ·
   rw [List.mem_singleton.1 h']; exact g2
noncomputable def h8P (a:List (I .i64)) (calm:Bool) (i:Nat) (l:List c5B) (p:MS×List Rcp):(((List (I .i64))×(Bool×((I .i64)×Unit)))×(a0W×(a0N×((List a0O)×((List a0B)×(a0T×((List a0D)×((List (I .u64))×((List a0E)×((List a0J)×((List a7H)×Unit))))))))))) :=
 ((a,(calm,(i6 i,()))),(p.1.j,(lgH p.1.v,(p.1.ac,(p.1.ms,(esH p.1.bal,(p.1.rt,(p.1.cl,(p.1.ba,(l,(p.2,())))))))))))
noncomputable def h8I (l:List c5B) (p:MS×List Rcp):Unit×(a0W×(a0N×(a0T×((List a0B)×((List a0O)×((List a0D)×((List (I .u64))×((List a0E)×((List a0J)×((List a7H)×Unit)))))))))) :=
 ((),(p.1.j,(lgH p.1.v,(esH p.1.bal,(p.1.ms,(p.1.ac,(p.1.rt,(p.1.cl,(p.1.ba,(l,(p.2,())))))))))))
theorem h1K (a:List (I .i64)) (calm:Bool) (ha:a.length≤1000):∃ (l:List c5B) (p:MS×List Rcp),b0K K0 ((a,(calm,())),())=some (h8I l p)∧RunOk calm a.length l p:=by
 refine Wp.out (T:=fun o=>∃ (l:List c5B) (p:MS×List Rcp),o=some (h8I l p)∧RunOk calm a.length l p) ?_
 unfold b0K
 refine Wp.optF h1S (Wp.optF g1Y ?_)
 refine Wp.iter (fun x=>∃ i,i≤8∧x=h8P a calm i setupL (e8H ms0 (setupL.take i))) (fun x=>8-x.1.2.2.1.val.toNat) ?_ ⟨0,by omega,rfl⟩ (by rw [a6Z]; show 8-0<_; decide)
 rintro x ⟨i,hi,rfl⟩
 obtain ⟨hsz,hm⟩:=d9X calm i hi
 have hrl:=f1J ms0 (setupL.take i)
 have hnx:(h:i<8)→e8H ms0 (setupL.take (i+1))=c9M (e8H ms0 (setupL.take i)) (rdL g9E setupL i):=by
  intro h
  have hl:i<setupL.length:=h
  rw [List.take_add_one,List.getElem?_eq_getElem hl,a3Y _ _ _ hl]
  simp only [Option.toList]
  rw [d6R]
 have hfin:i=8→e8H ms0 (setupL.take i)=e8H ms0 setupL:=by
  intro e
  rw [e]
  rfl
 generalize e8H ms0 (setupL.take i)=p at *
 have h8:setupL.length=8:=rfl
 have e:I.ltb (i6 i) (I.ofNat .i64 (a0K setupL))=decide (i<8):=a2L (n:=i) (m:=8) (by omega) (by omega)
 have hn:I.add (i6 i) (I.of .i64 1)=i6 (i+1):=a2K (m:=1) (by omega)
 refine Wp.brn (fun hc=>?_) (fun hc=>?_)
 ·
  have hc:I.ltb (i6 i) (I.ofNat .i64 (a0K setupL))=true:=hc
  rw [e] at hc
  have hc:=of_decide_eq_true hc
  have hnx:=hnx hc
  refine Wp.brnT (by show inB (i6 i) setupL.length=true; exact a3H (by omega) (by omega)) ?_
  have hmem:rdL g9E setupL i∈setupL:=c3L _ _ _ (by omega)
  have hg:=d9U calm (128*i) _ hmem
  have hex:=g3P p.1 (rdL g9E setupL i) (hsz.mono (by omega)) (by have:=hg.data; omega) (by have:=hg.prf; omega)
  have hrd:rdL ((I.of .i64 0),(zTx,(a0I,((I.of .u64 0),((I.of .i64 0),(Z_U,((I.of .u64 0),(h3C,())))))))) setupL (I.nat (i6 i))=rdL g9E setupL i:=by
   rw [a3J (by omega),a3Y _ _ _ (by omega),a3Y _ _ _ (by omega)]
  rw [← hrd] at hex
  refine Wp.optF hex ?_
  refine Wp.brnT (b4Q _ _ (by show p.2.length+1≤_; rw [hrl,List.length_take]; omega)) ?_
  refine Wp.again ⟨i+1,by omega,?_⟩ ?_
  ·
   rw [hnx]
   show ((a,(calm,(I.add (i6 i) (I.of .i64 1),()))),_)=_
   rw [hn,← hrd]
   rfl
  ·
   show 8-(I.add (i6 i) (I.of .i64 1)).val.toNat<8-(i6 i).val.toNat
   rw [hn,a0Q (by omega),a0Q (by omega)]; omega
 ·
  have hc:I.ltb (i6 i) (I.ofNat .i64 (a0K setupL))=false:=hc
  rw [e] at hc
  have hc:i=8:=by have:=of_decide_eq_false hc; omega
  subst hc
  have hfin:=hfin rfl
  have h0:RunOk calm 0 setupL p:=⟨hfin,rfl,hsz.mono (by omega),d9U calm _,hm⟩
  clear hnx hfin hsz hm hrl
  refine Wp.done ?_
  refine Wp.iter (fun x=>∃ (i:Nat) (l:List c5B) (p:MS×List Rcp),i≤a.length∧x=h8P a calm i l p∧RunOk calm i l p) (fun x=>a.length-x.1.2.2.1.val.toNat) ?_ ⟨0,setupL,p,by omega,rfl,h0⟩ (by rw [a6Z]; show a.length-0<_; omega)
  rintro x ⟨i,l,q,hi,rfl,hR⟩
  have e:I.ltb (i6 i) (I.ofNat .i64 (a0K a))=decide (i<a.length):=a2L (n:=i) (by omega) (by show a.length<_; omega)
  have hn:I.add (i6 i) (I.of .i64 1)=i6 (i+1):=a2K (m:=1) (by omega)
  have hql:q.2.length=8+i:=by rw [hR.run,f1J,hR.len]
  refine Wp.brn (fun hc=>?_) (fun hc=>?_)
  ·
   have hc:I.ltb (i6 i) (I.ofNat .i64 (a0K a))=true:=hc
   rw [e] at hc
   have hc:=of_decide_eq_true hc
   refine Wp.brnT (by show inB (i6 i) a.length=true; exact a3H (by omega) (by omega)) ?_
   have hsz:=hR.sz.mono (show 128*(8+i)≤100000000 by omega)
   obtain ⟨s,hs,hg⟩:=g7L (rdL (I.of .i64 0) a (I.nat (i6 i))) calm q.1 hsz
   refine Wp.optF hs (Wp.brnT (b4Q _ _ (by show l.length+1≤_; rw [hR.len]; omega)) ?_)
   refine Wp.optF (g3P q.1 s hsz (by have:=hg.data; omega) (by have:=hg.prf; have:=hsz.ms; omega)) ?_
   refine Wp.brnT (b4Q _ _ (by show q.2.length+1≤_; omega)) ?_
   refine Wp.again ⟨i+1,l++[s],c9M q s,by omega,?_,hR.snoc hg⟩ ?_
   ·
    show ((a,(calm,(I.add (i6 i) (I.of .i64 1),()))),_)=_
    rw [hn]
    rfl
   ·
    show a.length-(I.add (i6 i) (I.of .i64 1)).val.toNat<a.length-(i6 i).val.toNat
    rw [hn,a0Q (by omega),a0Q (by omega)]; omega
  ·
   have hc:I.ltb (i6 i) (I.ofNat .i64 (a0K a))=false:=hc
   rw [e] at hc
   have hc:i=a.length:=by have:=of_decide_eq_false hc; omega
   subst hc
   exact Wp.done ⟨l,q,rfl,hR⟩
end Sym

/- Lists of steps written, both programs'; the law. -/
namespace Sym
open Go
abbrev d7T:Type:=a0J
def SmB (s:d7T):Prop:=List.length s.2.1.2.2.2.2.2.2.2.2.1≤1000∧List.length s.2.2.2.2.2.2.2.1.2.2.2.2.1≤100000
noncomputable def bO (s:d7T):Byt:=(stO s).1.1
noncomputable def eO (s:d7T):I .i64:=(stO s).1.2.1
theorem g4I (s:d7T) (h:SmB s):(bO s).length≤6000:=by
 obtain ⟨hd,hp⟩:=h
 have hk0:=f7Z s
 have nil_le:([]:Byt).length≤6000:=Nat.zero_le _
 unfold bO stO
 split
 ·
  exact nil_le
 split
 ·
  split
  ·
   exact nil_le
  ·
   exact Nat.le_trans (lBy hk0 (e6Z s.2.1 (by omega)) (by omega)) (by omega)
 split
 ·
  exact Nat.le_trans (e8A (l64 (l64 hk0 _) _) _) (by omega)
 split
 ·
  exact Nat.le_trans (l64 hk0 _) (by omega)
 split
 ·
  split
  ·
   exact nil_le
  ·
   exact Nat.le_trans (e8A (l64 hk0 _) _) (by omega)
 split
 ·
  exact Nat.le_trans (l64 hk0 _) (by omega)
 split
 ·
  exact Nat.le_trans (e8A (l64 hk0 _) _) (by omega)
 split
 ·
  exact nil_le
 ·
  rename_i h
  exact Nat.le_trans (g6A (kB s) _ hk0 (Nat.le_of_not_lt h)) (by omega)
noncomputable def f9A:List d7T→Option (I .i64)
 | []=>none
 | s::l=>match I.neb (eO s) (I.of .i64 0) with
  | true=>some (eO s)
  | false=>f9A l
theorem d5L:∀ l:List d7T,(∀ s∈l,I.neb (eO s) (I.of .i64 0)=false)→f9A l=none
 | [],_=>rfl
 | s::l,h=>by
  unfold f9A
  rw [h s (List.mem_cons_self ..)]
  exact d5L l fun x hx=>h x (List.mem_cons_of_mem _ hx)
theorem d5V:∀ (l:List d7T) (i:Nat) (hi:i<l.length),(∀ s∈l.take i,I.neb (eO s) (I.of .i64 0)=false)→I.neb (eO l[i]) (I.of .i64 0)=true→f9A l=some (eO l[i])
 | s::l,0,_,_,h=>by
  unfold f9A
  have h:I.neb (eO s) (I.of .i64 0)=true:=h
  rw [h]
  rfl
 | s::l,i+1,hi,h1,h=>by
  unfold f9A
  rw [h1 s (by rw [List.take_succ_cons]; exact List.mem_cons_self ..)]
  exact d5V l i (by simpa using hi) (fun x hx=>h1 x (by rw [List.take_succ_cons]; exact List.mem_cons_of_mem _ hx)) h
noncomputable def esO (l:List d7T):TxO :=
 match f9A l with
 | some e=>(([],(e,())),())
 | none=>((d1U (l.map bO),(I.of .i64 0,())),())
theorem f1F (l:List d7T) (h:∀ s∈l,SmB s):(d1U (l.map bO)).length≤6100*l.length:=by
 induction l with
 | nil=>exact Nat.zero_le _
 | cons s l ih =>
  have h1:=g4I s (h s (List.mem_cons_self ..))
  have h2:=ih fun x hx=>h x (List.mem_cons_of_mem _ hx)
  have h3:nby (bO s).length≤8:=c7N (by omega)
  show (d4A (bO s)++d1U (l.map bO)).length≤6100*(l.length+1)
  rw [List.length_append,e1R]
  omega
theorem f5W {l:List d7T} {i:Nat} (hi:i<l.length) (h:∀ s∈l.take i,I.neb (eO s) (I.of .i64 0)=false) (h2:I.neb (eO l[i]) (I.of .i64 0)=false):∀ s∈l.take (i+1),I.neb (eO s) (I.of .i64 0)=false:=by
 rw [List.take_succ_eq_append_getElem hi]
 intro s hs
 rcases List.mem_append.1 hs with hs | hs
 ·
  exact h s hs
 ·
  rw [List.mem_singleton.1 hs]; exact h2
theorem wEs (l:List d7T) (hl:l.length≤100) (hS:∀ s∈l,SmB s):b2I K0 ((l,()),())=some (esO l):=by
 refine Wp.out (T:=fun o=>o=some (esO l)) ?_
 unfold b2I
 refine Wp.iter (fun x=>∃ i,i≤l.length∧x=((l,(i6 l.length,(i6 i,()))),((l.take i).map bO,()))∧∀ s∈l.take i,I.neb (eO s) (I.of .i64 0)=false) (fun x=>l.length-x.1.2.2.1.val.toNat) ?_ ⟨0,Nat.zero_le _,rfl,fun s hs=>by simp at hs⟩ (by rw [a6Z]; show l.length-0<_; omega)
 rintro x ⟨i,hi,rfl,hok⟩
 simp only [a2L (show i<9223372036854775808 by omega) (show l.length<9223372036854775808 by omega),a3J (show i<9223372036854775808 by omega)]
 refine Wp.brn (fun hc=>?_) (fun hc=>?_)
 ·
  have hc:=of_decide_eq_true hc
  have hs:=hS l[i] (List.getElem_mem hc)
  refine Wp.brnT (a3H hc (by omega)) ?_
  rw [a3Y _ _ _ hc]
  refine Wp.optF (wSt l[i] (by have:=hs.1; omega) (by have:=hs.2; omega)) (Wp.brn (fun he=>?_) (fun he=>?_))
  ·
   have he:I.neb (eO l[i]) (I.of .i64 0)=true:=he
   refine Wp.done ?_
   have e:esO l=(([],(eO l[i],())),()):=by unfold esO; rw [d5V l i hc hok he]
   rw [e]; exact rfl
  ·
   have he:I.neb (eO l[i]) (I.of .i64 0)=false:=he
   refine Wp.brnT (b4Q _ _ (by show ((l.take i).map bO).length+1≤_; rw [List.length_map,List.length_take]; omega)) (Wp.again ⟨i+1,hc,?_,f5W hc hok he⟩ ?_)
   ·
    show ((l,(i6 l.length,(I.add (i6 i) (i6 1),()))),((l.take i).map bO++[bO l[i]],()))=_
    rw [a2K (by omega),List.take_succ_eq_append_getElem hc,List.map_append]
    rfl
   ·
    show l.length-(I.add (i6 i) (i6 1)).val.toNat<l.length-(i6 i).val.toNat
    rw [a2K (by omega),a0Q (by omega),a0Q (by omega)]; omega
 ·
  have hc:=of_decide_eq_false hc
  have ht:l.take i=l:=List.take_of_length_le (by omega)
  rw [ht] at hok ⊢
  have hn:=f1F l hS
  refine Wp.done (Wp.optF (i0K (l.map bO) (by omega)) ?_)
  have e:esO l=((d1U (l.map bO),(I.of .i64 0,())),()):=by unfold esO; rw [d5L l hok]
  rw [e]; exact rfl
theorem h8B (l:List d7T) (hl:l.length≤100):∃ t:Bool,b0I K0 ((l,()),())=some ((t,()),())∧(t=false→∀ s∈l,List.length s.2.1.2.2.2.2.2.2.2.2.1≤140737488355328→List.length s.2.2.2.2.2.2.2.1.2.2.2.2.1≤140737488355328→SmB s):=by
 refine Wp.out (T:=fun o=>∃ t:Bool,o=some ((t,()),())∧(t=false→∀ s∈l,List.length s.2.1.2.2.2.2.2.2.2.2.1≤140737488355328→List.length s.2.2.2.2.2.2.2.1.2.2.2.2.1≤140737488355328→SmB s)) ?_
 unfold b0I
 refine Wp.iter (fun x=>∃ i,i≤l.length∧x=((l,(i6 i,())),())∧∀ s∈l.take i,List.length s.2.1.2.2.2.2.2.2.2.2.1≤140737488355328→List.length s.2.2.2.2.2.2.2.1.2.2.2.2.1≤140737488355328→SmB s) (fun x=>l.length-x.1.2.1.val.toNat) ?_ ⟨0,Nat.zero_le _,rfl,fun s hs=>by simp at hs⟩ (by rw [a6Z]; show l.length-0<_; omega)
 rintro x ⟨i,hi,rfl,hok⟩
 simp only [a5Y,a8H,a2L (show i<9223372036854775808 by omega) (show l.length<9223372036854775808 by omega),a3J (show i<9223372036854775808 by omega)]
 refine Wp.brn (fun hc=>?_) (fun hc=>?_)
 ·
  have hc:=of_decide_eq_true hc
  refine Wp.brnT (a3H hc (by omega)) ?_
  rw [a3Y _ _ _ hc]
  refine Wp.brn (fun h1=>Wp.done ⟨true,rfl,fun h=>(by cases h)⟩) (fun h1=>Wp.brnT (a3H hc (by omega)) (Wp.brn (fun h2=>Wp.done ⟨true,rfl,fun h=>(by cases h)⟩) (fun h2=>Wp.again ⟨i+1,hc,?_,?_⟩ ?_)))
  ·
   show ((l,(I.add (i6 i) (i6 1),())),())=_
   rw [a2K (by omega)]
  ·
   rw [List.take_succ_eq_append_getElem hc]
   intro s hs
   rcases List.mem_append.1 hs with hs | hs
   ·
    exact hok s hs
   ·
    rw [List.mem_singleton.1 hs]
    intro g1 g2
    have e4:I.of .i64 400=i6 400:=rfl
    have e7:I.of .i64 70=i6 70:=rfl
    have h1:I.ltb (i6 400) (i6 (List.length l[i].2.1.2.2.2.2.2.2.2.2.1))=false:=h1
    have h2:I.ltb (i6 70) (i6 (List.length l[i].2.2.2.2.2.2.2.1.2.2.2.2.1))=false:=h2
    rw [a2L (by omega) (by omega)] at h1 h2
    have h1:=of_decide_eq_false h1
    have h2:=of_decide_eq_false h2
    exact ⟨by omega,by omega⟩
  ·
   show l.length-(I.add (i6 i) (i6 1)).val.toNat<l.length-(i6 i).val.toNat
   rw [a2K (by omega),a0Q (by omega),a0Q (by omega)]; omega
 ·
  have hc:=of_decide_eq_false hc
  have ht:l.take i=l:=List.take_of_length_le (by omega)
  rw [ht] at hok
  exact Wp.done ⟨false,rfl,fun _=>hok⟩
end Sym

/- EncodeSteps: the law. -/
namespace Sym
open Go
theorem h1X {X:Type} (d b y:X) (i:Nat) (hi:i<2) {P:X→Prop} (h1:P b) (h2:P y):P (@Arr.sel X d 2 (b,(y,())) i):=by
 match i,hi with
 | 0,_=>exact h1
 | 1,_=>exact h2
theorem e6K {l:List d7T} {k:Nat} {v:d7T} (h:∀ s∈l,SmB s) (hv:SmB v):∀ s∈b9T l k v,SmB s:=by
 intro s hs
 rw [b9T,a7K] at hs
 rcases List.mem_or_eq_of_mem_set hs with hs | rfl
 ·
  exact h s hs
 ·
  exact hv
theorem h2M (s:d7T) (q:I .i64) (h:SmB s):SmB (q,s.2):=h
theorem g7C (s:d7T) (q:I .i64) (h:SmB s):SmB (s.1,(s.2.1,(s.2.2.1,(s.2.2.2.1,(q,s.2.2.2.2.2))))):=h
theorem c9T {X:Type} (l:List X) (k:Nat) (v:X):List.length (b9T l k v)=l.length:=by rw [b9T,a7K,List.length_set]
theorem d7M (a:List d7T) (b:List (I .i64)) (c:Bool) (ha:a.length≤LIM) (hb:b.length≤LIM)
  (hd:∀ s∈a,List.length s.2.1.2.2.2.2.2.2.2.2.1≤LIM∧List.length s.2.2.2.2.2.2.2.1.2.2.2.2.1≤LIM):a5F K0 ((a,(b,(c,()))),())=some ((true,()),()):=by
 refine Wp.out (T:=fun o=>o=some ((true,()),())) ?_
 unfold a5F
 have hL:LIM=140737488355328:=rfl
 refine Wp.jn (fun x=>(a.length≤20∧b.length≤15∧∀ s∈a,SmB s)∧x=((a,(b,(c,()))),())) ?_ (fun j0 hj0=>?_)
 ·
  rintro x ⟨⟨ha,hb,hs⟩,rfl⟩
  obtain ⟨l,p,hsim,hR⟩:=h1K b false (by omega)
  have hll:=hR.len
  have hlS:∀ s∈l,SmB s:=fun s hs=>⟨(hR.good s hs).data,Nat.le_trans (hR.good s hs).prf (by omega)⟩
  refine Wp.optF hsim ?_
  refine Wp.jn (fun x=>∃ a':List d7T,x=((a',()),(l,()))∧a'.length≤100∧∀ s∈a',SmB s) ?_ (fun j2 hj2=>?_)
  ·
   rintro x ⟨a',rfl,ha',hs'⟩
   refine Wp.iter (fun x=>∃ i,i≤2∧x=(((a',(l,())),(i6 i,())),())) (fun x=>2-x.1.2.1.val.toNat) ?_ ⟨0,Nat.zero_le _,rfl⟩ (by rw [a6Z]; show 2-(i6 0).val.toNat<_; omega)
   rintro x ⟨i,hi,rfl⟩
   have e2:I.of .i64 2=i6 2:=rfl
   have e1:I.of .i64 1=i6 1:=rfl
   simp only [e1,e2,a2L (show i<9223372036854775808 by omega) (show 2<9223372036854775808 by omega),a3J (show i<9223372036854775808 by omega)]
   refine Wp.brn (fun hc=>?_) (fun hc=>Wp.done (Wp.optF f7X rfl))
   have hc:=of_decide_eq_true hc
   refine Wp.brnT (a3H hc (by omega)) ?_
   obtain ⟨z,hz⟩:∃ z,@Arr.sel (List d7T) [] 2 (a',(l,())) i=z:=⟨_,rfl⟩
   have hzl:z.length≤100:=by rw [← hz]; exact h1X [] a' l i hc (P:=fun z=>List.length z≤100) ha' (by omega)
   have hzS:∀ s∈z,SmB s:=by rw [← hz]; exact h1X [] a' l i hc (P:=fun z=>∀ s∈z,SmB s) hs' hlS
   have hμ:2-(I.add (i6 i) (i6 1)).val.toNat<2-(i6 i).val.toNat:=by rw [a2K (by omega),a0Q (by omega),a0Q (by omega)]; omega
   refine Wp.jn (fun x=>∃ (code:I .i64) (w:Byt),x=((z,(code,((a',(l,())),(i6 i,())))),(w,()))∧((code=I.of .i64 0∧f9A z=none∧w=d1U (z.map bO))∨(I.neb code (I.of .i64 0)=true∧f9A z=some code))) ?_ (fun j4 hj4=>?_)
   ·
    rintro x ⟨code,w,rfl,hcw⟩
    refine Wp.jn (fun x=>∃ (code:I .i64) (w:Byt),x=((z,(code,((a',(l,())),(i6 i,())))),(w,()))∧esO z=((w,(code,())),())) ?_ (fun j5 hj5=>?_)
    ·
     rintro x ⟨code,w,rfl,he⟩
     have hw:=wEs z hzl hzS
     rw [he] at hw
     refine Wp.optF hw (Wp.optF (g2Z rfl) (Wp.brnF rfl (Wp.brnF (niff_neb.2 rfl) (Wp.again ⟨i+1,hc,?_⟩ hμ))))
     show (((a',(l,())),(I.add (i6 i) (i6 1),())),())=_
     rw [a2K (by omega)]
    ·
     refine Wp.brn (fun hn=>?_) (fun hn=>?_)
     ·
      have hn:I.neb code (I.of .i64 0)=true:=hn
      refine hj5 _ ⟨code,[],rfl,?_⟩
      rcases hcw with ⟨h0,_⟩ | ⟨_,h1⟩
      ·
       rw [h0] at hn; cases hn
      ·
       unfold esO; rw [h1]
     ·
      have hn:I.neb code (I.of .i64 0)=false:=hn
      refine hj5 _ ⟨code,w,rfl,?_⟩
      rcases hcw with ⟨h0,h1,h2⟩ | ⟨h1,_⟩
      ·
       unfold esO; rw [h1,h0,h2]
      ·
       rw [hn] at h1; cases h1
   ·
    refine Wp.iter (fun x=>∃ (k:Nat) (code:I .i64) (w:Byt),k≤z.length∧x=((z,(code,(i6 k,((a',(l,())),(i6 i,()))))),(w,()))∧((code=I.of .i64 0∧(∀ s∈z.take k,I.neb (eO s) (I.of .i64 0)=false)∧w=d1U ((z.take k).map bO))∨(I.neb code (I.of .i64 0)=true∧f9A z=some code))) (fun x=>z.length-x.1.2.2.1.val.toNat) ?_ ⟨0,I.of .i64 0,[],Nat.zero_le _,?_,.inl ⟨rfl,fun s hs=>by simp at hs,rfl⟩⟩ (by rw [a6Z]; show z.length-(i6 0).val.toNat<_; omega)
    case refine_2 =>
     show ((@Arr.sel (List d7T) [] 2 (a',(l,())) i,(I.of .i64 0,(i6 0,((a',(l,())),(i6 i,()))))),(([]:Byt),()))=_
     rw [hz]
    rintro x ⟨k,code,w,hk,rfl,hcw⟩
    refine Wp.jnI ?_
    simp only [a5Y,a8H,a2L (show k<9223372036854775808 by omega) (show z.length<9223372036854775808 by omega),a3J (show k<9223372036854775808 by omega)]
    refine Wp.brn (fun hc2=>?_) (fun hc2=>?_)
    ·
     have hc2:=of_decide_eq_true hc2
     refine Wp.brn (fun h0=>?_) (fun h0=>?_)
     ·
      have h0:I.eqb code (I.of .i64 0)=true:=h0
      have h0:=I.eq_of h0
      rcases hcw with ⟨_,hok,hw⟩ | ⟨hn,_⟩
      case inr=>rw [h0] at hn; cases hn
      have hs:=hzS z[k] (List.getElem_mem hc2)
      refine Wp.brnT (a3H hc2 (by omega)) ?_
      rw [a3Y _ _ _ hc2]
      have hwl:w.length≤610000:=by
       rw [hw]
       refine Nat.le_trans (f1F (z.take k) fun s hs=>hzS s (List.mem_of_mem_take hs)) ?_
       rw [List.length_take]
       omega
      have hbl:=g4I z[k] hs
      refine Wp.optF (rSt z[k] (by have:=hs.1; omega) (by have:=hs.2; omega)) (Wp.optF (f4F w (bO z[k]) (by omega)) (Wp.again ⟨k+1,eO z[k],w++d4A (bO z[k]),hc2,?_,?_⟩ ?_))
      ·
       show ((z,(eO z[k],(I.add (i6 k) (i6 1),((a',(l,())),(i6 i,()))))),(w++d4A (bO z[k]),()))=_
       rw [a2K (by omega)]
      ·
       by_cases he:I.neb (eO z[k]) (I.of .i64 0)=true
       ·
        exact .inr ⟨he,d5V z k hc2 hok he⟩
       ·
        have he:I.neb (eO z[k]) (I.of .i64 0)=false:=by cases h:I.neb (eO z[k]) (I.of .i64 0) with
         | true=>exact absurd h he
         | false=>rfl
        refine .inl ⟨I.ext' (niff_neb.1 he),f5W hc2 hok he,?_⟩
        rw [hw,List.take_succ_eq_append_getElem hc2,List.map_append]
        exact (d6A _ _).symm
      ·
       show z.length-(I.add (i6 k) (i6 1)).val.toNat<z.length-(i6 k).val.toNat
       rw [a2K (by omega),a0Q (by omega),a0Q (by omega)]; omega
     ·
      have h0:I.eqb code (I.of .i64 0)=false:=h0
      rcases hcw with ⟨h1,_⟩ | ⟨hn,he⟩
      ·
       rw [h1] at h0; cases h0
      ·
       exact Wp.done (hj4 _ ⟨code,w,rfl,.inr ⟨hn,he⟩⟩)
    ·
     have hc2:=of_decide_eq_false hc2
     have ht:z.take k=z:=List.take_of_length_le (by omega)
     refine Wp.done (hj4 _ ⟨code,w,rfl,?_⟩)
     rcases hcw with ⟨h0,hok,hw⟩ | h
     ·
      rw [ht] at hok hw
      exact .inl ⟨h0,d5L z hok,hw⟩
     ·
      exact .inr h
  ·
   refine Wp.brn (fun hcc=>?_) (fun hcc=>hj2 _ ⟨a,rfl,by omega,hs⟩)
   refine Wp.brnT (b3P (by show ([]++a).length≤_; rw [List.nil_append]; omega)) ?_
   refine Wp.iter (fun x=>∃ (k:Nat) (m:List d7T),x=((i6 k,()),(m,(l,())))∧k≤m.length∧m.length=a.length∧∀ s∈m,SmB s) (fun x=>a.length-x.1.1.val.toNat) ?_ ⟨0,a,rfl,Nat.zero_le _,rfl,hs⟩ (by rw [a6Z]; show a.length-(i6 0).val.toNat<_; omega)
   rintro x ⟨k,m,rfl,hk,hm,hmS⟩
   have e1:I.of .i64 1=i6 1:=rfl
   refine Wp.brn (fun hc=>?_) (fun hc=>Wp.done (hj2 _ ⟨m,rfl,by omega,hmS⟩))
   have hc:I.ltb (i6 k) (i6 m.length)=true:=hc
   rw [a2L (by omega) (by omega)] at hc
   have hc:=of_decide_eq_true hc
   simp only [a3J (show k<9223372036854775808 by omega)]
   refine Wp.brnT (a3H hc (by omega)) ?_
   have h7:∀ q:I .i64,∃ y:I .i64,a4O K0 ((q,(I.of .i64 7,())),())=some ((y,()),()):=fun q=>by obtain ⟨y,hy,_⟩:=f4D q (I.of .i64 7) (by decide); exact ⟨y,hy⟩
   have h20:∀ q:I .i64,∃ y:I .i64,a4O K0 ((q,(I.of .i64 20,())),())=some ((y,()),()):=fun q=>by obtain ⟨y,hy,_⟩:=f4D q (I.of .i64 20) (by decide); exact ⟨y,hy⟩
   obtain ⟨y4,hy4⟩:=h7 _
   refine Wp.optF hy4 (Wp.brnT (a3H hc (by omega)) (Wp.brnT (a3H (by rw [a8H,c9T]; exact hc) (by omega)) ?_))
   obtain ⟨y5,hy5⟩:=h20 _
   refine Wp.optF hy5 (Wp.brnT (a3H (by rw [a8H,c9T]; exact hc) (by omega)) ?_)
   refine Wp.again ⟨k+1,_,Prod.ext (Prod.ext (a2K (m:=1) (by omega)) rfl) rfl,by rw [c9T,c9T]; omega,by rw [c9T,c9T]; exact hm,e6K (e6K hmS ?_) ?_⟩ ?_
   ·
    exact h2M _ _ (hmS _ (c3L _ m k hc))
   ·
    exact g7C _ _ (e6K hmS (h2M _ _ (hmS _ (c3L _ m k hc))) _ (c3L _ _ k (by rw [c9T]; exact hc)))
   ·
    show a.length-(I.add (i6 k) (i6 1)).val.toNat<a.length-(i6 k).val.toNat
    rw [a2K (by omega),a0Q (by omega),a0Q (by omega)]; omega
 ·
  refine Wp.jn (fun x=>∃ t:Bool,x=((a,(b,(c,(t,())))),())∧(t=false→a.length≤20∧b.length≤15∧∀ s∈a,SmB s)) ?_ (fun j1 hj1=>?_)
  ·
   rintro x ⟨t,rfl,ht⟩
   exact Wp.brn (fun _=>Wp.optF f7X rfl) (fun hc=>hj0 _ ⟨ht hc,rfl⟩)
  ·
   simp only [a5Y,a8H,show I.of .i64 20=i6 20 from rfl,show I.of .i64 15=i6 15 from rfl,a2L (show 20<9223372036854775808 by omega) (show a.length<9223372036854775808 by omega),a2L (show 15<9223372036854775808 by omega) (show b.length<9223372036854775808 by omega)]
   refine Wp.brn (fun _=>hj1 _ ⟨true,rfl,fun h=>(by cases h)⟩) (fun hc=>Wp.brn (fun _=>hj1 _ ⟨true,rfl,fun h=>(by cases h)⟩) (fun hc2=>?_))
   have hc:=of_decide_eq_false hc
   have hc2:=of_decide_eq_false hc2
   obtain ⟨t,ht,hS⟩:=h8B a (by omega)
   exact Wp.optF ht (hj1 _ ⟨t,rfl,fun h=>⟨by omega,by omega,fun s hs=>hS h s hs (by have:=(hd s hs).1; omega) (by have:=(hd s hs).2; omega)⟩⟩)
end Sym

/- From what a row reads of the arguments to plain values, and from a contract to the row's answer. -/
namespace Sym
open Go
mutual
def f1Z (P:Program):Ty→TypeId→Bool
 | .cons a b,id=>match P.underlying id with
  | some (.struct fs)=>(match fs.toList with
   | f::r=>f1Z P a f.type&&g0E P b r
   | []=>false)
  | _=>false
 | .arr _ t,id=>match P.underlying id with
  | some (.array _ e)=>f1Z P t e
  | _=>false
 | .sl t,id=>match P.underlying id with
  | some (.slice e)=>Nat.ble 1 t.sz&&(Nat.ble 1 (P.bytesOf e)&&f1Z P t e)
  | _=>false
 | .opq,_=>false
 | .fnc,_=>false
 | _,_=>true
def g0E (P:Program):Ty→List Field→Bool
 | .cons a b,f::r=>f1Z P a f.type&&g0E P b r
 | _,_=>true
end
theorem mapM_some {X Y:Type} {f:X→Option Y}:∀ {l:List X} {r:List Y},l.mapM f=some r→r.length=l.length∧∀ (i:Nat) (a:X),l[i]?=some a→∃ b,r[i]?=some b∧f a=some b
 | [],r,h=>by
  simp only [List.mapM_nil,Option.pure_def,Option.some.injEq] at h
  subst h
  exact ⟨rfl,fun i a h=>by simp at h⟩
 | a::l,r,h=>by
  simp only [List.mapM_cons,Option.bind_eq_bind,Option.bind_eq_some_iff,Option.pure_def,Option.some.injEq] at h
  obtain ⟨b,hb,s,hs,rfl⟩:=h
  obtain ⟨h1,h2⟩:=mapM_some hs
  refine ⟨by simp [h1],fun i x hx=>?_⟩
  cases i with
  | zero =>
   simp only [List.getElem?_cons_zero,Option.some.injEq] at hx
   subst hx
   exact ⟨b,by simp,hb⟩
  | succ i =>
   simp only [List.getElem?_cons_succ] at hx
   obtain ⟨y,h3,h4⟩:=h2 i x hx
   exact ⟨y,by simp [h3],h4⟩
theorem f3G {Y:Type} {f:Nat→Option Y} {n:Nat} {r:List Y} (h:(List.range n).mapM f=some r):r.length=n∧∀ i,i<n→∃ b,r[i]?=some b∧f i=some b:=by
 obtain ⟨h1,h2⟩:=mapM_some h
 refine ⟨by simpa using h1,fun i hi=>h2 i i (by simp [hi])⟩
theorem d7K {X:Type}:∀ (n:Nat) (R:Nat→X→Prop),(∀ i,i<n→∃ x,R i x)→∃ l:List X,l.length=n∧∀ i x,l[i]?=some x→R i x
 | 0,_,_=>⟨[],rfl,fun i x h=>by simp at h⟩
 | n+1,R,h=>by
  obtain ⟨x,hx⟩:=h 0 (by omega)
  obtain ⟨l,h1,h2⟩:=d7K n (fun i x=>R (i+1) x) fun i hi=>h (i+1) (by omega)
  refine ⟨x::l,by simp [h1],fun i y hy=>?_⟩
  cases i with
  | zero=>simp only [List.getElem?_cons_zero,Option.some.injEq] at hy; subst hy; exact hx
  | succ i=>exact h2 i y (by simpa using hy)
theorem d8O {X:Type} {E:X→List Value→Prop} {s:Nat}:∀ (n:Nat) (cs:List Value),cs.length=n*s→(∀ i,i<n→∃ x,E x ((cs.drop (i*s)).take s))→∃ x,b4V E n x cs
 | 0,cs,hl,_=>⟨(),by simp at hl; exact hl⟩
 | n+1,cs,hl,h=>by
  obtain ⟨x,hx⟩:=h 0 (by omega)
  simp only [Nat.zero_mul,List.drop_zero] at hx
  obtain ⟨y,hy⟩:=d8O (E:=E) (s:=s) n (cs.drop s) (by rw [List.length_drop,hl,Nat.succ_mul]; omega) fun i hi=>by
   obtain ⟨z,hz⟩:=h (i+1) (by omega)
   refine ⟨z,?_⟩
   rw [List.drop_drop,show s+i*s=(i+1)*s by rw [Nat.succ_mul]; omega]
   exact hz
  exact ⟨(x,y),cs.take s,cs.drop s,(List.take_append_drop s cs).symm,hx,hy⟩
theorem c3D {H:Type} {P:Program} {e:TypeId}:∀ {ds:List (DataW H)} {i:Nat} {d:DataW H},ds[i]?=some d→∀ n∈d.weights P e,n∈DataW.weightsAll P e ds
 | d0::ds,0,d,hd,n,hn=>by
  simp only [List.getElem?_cons_zero,Option.some.injEq] at hd
  subst hd
  simp only [DataW.weightsAll,List.mem_append]
  exact .inl hn
 | d0::ds,i+1,d,hd,n,hn=>by
  simp only [List.getElem?_cons_succ] at hd
  simp only [DataW.weightsAll,List.mem_append]
  exact .inr (c3D hd n hn)
def strOf (s:ByteArray):List (I .u8):=s.data.toList.map fun b=>I.of .u8 b.toNat
theorem e0Z (s:ByteArray):bytesOf (strOf s)=s:=by
 unfold bytesOf strOf
 cases s with | mk a =>
 congr 1
 rw [List.map_map]
 have:((fun c:I .u8=>UInt8.ofNat c.val.toNat) ∘ fun b:UInt8=>I.of .u8 b.toNat)=id:=by
  funext b
  simp only [Function.comp,id,I.of,IntKind.wrap,IntKind.bits,IntKind.signed,Bool.false_and,Bool.false_eq_true,if_false]
  have:=b.toNat_lt
  rw [show ((b.toNat:Int)%2^8)=(b.toNat:Int) by omega,Int.toNat_natCast]
  exact UInt8.ofNat_toNat
 rw [this,List.map_id,Array.toArray_toList]
section
variable {H:Type} {enc:TypeId×Value→H} {P:Program} {W:World} {base:Nat} {spare:Nat→Bool} {held:Bool}
abbrev GW (W:World):Nat→Prop:=fun r=>r<W.heap.size
theorem g8W {a:Addr} {v:Value} (h:W.cell? a=some v):a.spot=none∧a.block<W.heap.size:=by
 unfold World.cell? at h
 split at h
 ·
  rename_i c _ _ hc
  split at h
  ·
   cases h
  ·
   rename_i hs
   refine ⟨by simpa using hs,?_⟩
   rw [Array.getElem?_eq_some_iff] at hc
   exact hc.1
 ·
  cases h
theorem f4L {base:Nat} {a:Addr} {n:Nat} {ds:List Value} (h:W.cells? base a n=some ds):ds.length=n∧∀ j d,ds[j]?=some d→W.cell? (a.add j)=some d:=by
 unfold World.cells? at h
 split at h
 ·
  obtain ⟨h1,h2⟩:=f3G h
  refine ⟨h1,fun j d hd=>?_⟩
  obtain ⟨b,h3,h4⟩:=h2 j (by rw [← h1]; exact (List.getElem?_eq_some_iff.1 hd).1)
  rw [h3] at hd
  rw [h4,hd]
 ·
  cases h
theorem addr_add {a:Addr} (hs:a.spot=none) (n:Nat):a.add n=⟨a.block,a.off+n,none⟩:=by
 unfold Addr.add
 cases a
 simp only at hs
 subst hs
 split
 ·
  rename_i h; subst h; rfl
 ·
  rfl
theorem e8J:∀ (t:Ty),
  (∀ fuel id cs (d:DataW H) (p:List MemPlace),TOk P t id→f1Z P t id=true→DataW.trod enc P W base spare held fuel id cs=some (d,p)→(∀ n∈d.weights P id,n≤reachBytes)→∃ x,Enc W (GW W) t x cs) ∧
  (∀ fuel (r:List Field) (o:Nat) (cs:List Value) (xs:List (DataW H×List MemPlace)),FOk P t r o→g0E P t r=true→xs.length=r.length →
   (∀ (i:Nat) (f:Field),r[i]?=some f→DataW.trod enc P W base spare held fuel f.type ((cs.drop f.offset).take (P.cellsOf f.type))=xs[i]?) →
   (∀ n∈DataW.weightsEach P (r.map (·.type)) (xs.map (·.1)),n≤reachBytes)→cs.length=o+t.sz→∃ x,Enc W (GW W) t x (cs.drop o)):=by
 intro t
 have nofld:∀ t,(∀ a b,t≠.cons a b)→t≠.nil→∀ (r:List Field) (o:Nat),¬ FOk P t r o:=by
  intro t h1 h2 r o h
  cases t<;>first | exact h1 _ _ rfl | exact h2 rfl | (cases r<;>exact h.elim)
 induction t with
 | int k =>
  refine ⟨fun fuel id cs d p hT _ h _=>?_,fun fuel r o cs xs h=>(nofld _ (by simp) (by simp) _ _ h).elim⟩
  obtain ⟨n,hcs,_,hw⟩:=DataW.trod_int hT.2 h
  simp only [Lit.wf,Bool.and_eq_true,decide_eq_true_eq] at hw
  exact ⟨(⟨n,a8K hw⟩:I k),hcs⟩
 | bool =>
  refine ⟨fun fuel id cs d p hT _ h _=>?_,fun fuel r o cs xs h=>(nofld _ (by simp) (by simp) _ _ h).elim⟩
  obtain ⟨n,hcs,_⟩:=DataW.trod_bool hT.2 h
  exact ⟨n,hcs⟩
 | str =>
  refine ⟨fun fuel id cs d p hT _ h hw=>?_,fun fuel r o cs xs h=>(nofld _ (by simp) (by simp) _ _ h).elim⟩
  obtain ⟨s,hcs,hx,_⟩:=DataW.trod_string hT.2 h
  simp only [Prod.mk.injEq] at hx
  obtain ⟨rfl,rfl⟩:=hx
  refine ⟨strOf s,?_,?_⟩
  ·
   rw [e0Z]; exact hcs
  ·
   have:=hw s.data.toList.length (by simp [DataW.weights])
   have h2:(strOf s).length=s.data.toList.length:=List.length_map _
   show (strOf s).length≤LIM
   rw [h2]
   simp only [reachBytes,LIM] at *
   omega
 | nil =>
  refine ⟨fun fuel id cs d p hT _ h hw=>?_,fun fuel r o cs xs h _ _ _ _ hl=>⟨(),?_⟩⟩
  ·
   obtain ⟨xs,n,_,_,hl,_⟩:=DataW.trod_struct hT.2 h
   rw [hT.1] at hl
   exact ⟨(),List.eq_nil_of_length_eq_zero hl⟩
  ·
   show cs.drop o=[]
   simp only [Ty.sz,Nat.add_zero] at hl
   rw [List.drop_eq_nil_iff]; omega
 | cons a b iha ihb =>
  refine ⟨fun fuel id cs d p hT hA h hw=>?_,fun fuel r o cs xs hF hA hlen hf hw hl=>?_⟩
  ·
   obtain ⟨hsz,fs,f,r,hu,hfs,hf0,hTa,hFb⟩:=hT
   obtain ⟨xs,n,_,hx,hl,hlen,hfx⟩:=DataW.trod_struct hu h
   simp only [Prod.mk.injEq] at hx
   obtain ⟨rfl,rfl⟩:=hx
   simp only [f1Z,hu,hfs,Bool.and_eq_true] at hA
   have hfl:∀ (i:Nat) (g:Field),(f::r)[i]?=some g→DataW.trod enc P W base spare held n g.type ((cs.drop g.offset).take (P.cellsOf g.type))=xs[i]?:=by
    intro i g hg
    refine hfx i g ?_
    rw [← Array.getElem?_toList,hfs]
    exact hg
   have hlen':xs.length=r.length+1:=by rw [hlen,← Array.length_toList,hfs]; rfl
   match xs,hlen' with
   | y::ys,hlen' =>
    simp only [DataW.weights,hu,hfs,List.map_cons,DataW.weightsEach,List.mem_append] at hw
    have h0:=hfl 0 f rfl
    simp only [List.getElem?_cons_zero] at h0
    rw [hf0,hTa.size,List.drop_zero] at h0
    obtain ⟨x,hx⟩:=iha.1 n f.type _ y.1 y.2 hTa hA.1 h0 (fun m hm=>hw m (.inl hm))
    obtain ⟨z,hz⟩:=ihb.2 n r a.sz cs ys hFb hA.2 (by simpa using hlen') (fun i g hg=>by simpa using hfl (i+1) g hg) (fun m hm=>hw m (.inr hm)) (by rw [hl,hsz])
    exact ⟨(x,z),_,_,(List.take_append_drop a.sz cs).symm,hx,hz⟩
  ·
   cases r with
   | nil=>exact hF.elim
   | cons f r =>
    obtain ⟨hf0,hTa,hFb⟩:=hF
    simp only [g0E,Bool.and_eq_true] at hA
    match xs,hlen with
    | y::ys,hlen =>
     simp only [List.map_cons,DataW.weightsEach,List.mem_append] at hw
     have h0:=hf 0 f rfl
     simp only [List.getElem?_cons_zero] at h0
     rw [hf0,hTa.size] at h0
     simp only [Ty.sz] at hl
     obtain ⟨x,hx⟩:=iha.1 fuel f.type _ y.1 y.2 hTa hA.1 h0 (fun m hm=>hw m (.inl hm))
     obtain ⟨z,hz⟩:=ihb.2 fuel r (o+a.sz) cs ys hFb hA.2 (by simpa using hlen) (fun i g hg=>by simpa using hf (i+1) g hg) (fun m hm=>hw m (.inr hm)) (by omega)
     refine ⟨(x,z),_,_,(List.take_append_drop a.sz (cs.drop o)).symm,hx,?_⟩
     rw [List.drop_drop]
     exact hz
 | arr n t ih =>
  refine ⟨fun fuel id cs d p hT hA h hw=>?_,fun fuel r o cs xs h=>(nofld _ (by simp) (by simp) _ _ h).elim⟩
  obtain ⟨hsz,e,hu,hTe⟩:=hT
  obtain ⟨xs,m,_,hx,hl,hlen,hfx⟩:=DataW.trod_array hu h
  simp only [Prod.mk.injEq] at hx
  obtain ⟨rfl,rfl⟩:=hx
  simp only [f1Z,hu] at hA
  simp only [DataW.weights,hu] at hw
  refine d8O n cs (by rw [hl,hsz]) fun i hi=>?_
  have h0:=hfx i hi
  rw [hTe.size,List.getElem?_eq_getElem (by omega)] at h0
  refine ih.1 m e _ (xs[i]'(by omega)).1 (xs[i]'(by omega)).2 hTe hA h0 fun k hk=>hw k (c3D (i:=i) ?_ k hk)
  rw [List.getElem?_map,List.getElem?_eq_getElem (by omega)]; rfl
 | sl t ih =>
  refine ⟨fun fuel id cs d p hT hA h hw=>?_,fun fuel r o cs xs h=>(nofld _ (by simp) (by simp) _ _ h).elim⟩
  obtain ⟨hsz,e,hu,hTe⟩:=hT
  simp only [f1Z,hu,Bool.and_eq_true] at hA
  obtain ⟨hA1,hA2,hA⟩:=hA
  have hA1:=Nat.le_of_ble_eq_true hA1
  have hA2:=Nat.le_of_ble_eq_true hA2
  rcases DataW.trod_slice hu h with ⟨rfl,_⟩ | ⟨a,len,cap,elems,rest,m,_,rfl,hx,_,hlc,_,hel,hfx,_,_⟩
  ·
   refine ⟨([]:List t.D),none,0,rfl,Nat.le_refl _,by simp,.inl rfl⟩
  ·
   simp only [Prod.mk.injEq] at hx
   obtain ⟨rfl,rfl⟩:=hx
   simp only [DataW.weights,hu,List.mem_cons,List.mem_append] at hw
   have hb:=hw _ (.inl rfl)
   have hlim:len≤LIM:=by
    have h1:len≤(elems.length+rest.length)*P.bytesOf e:=by
     rw [← hel]
     refine Nat.le_trans ?_ (Nat.mul_le_mul_left _ hA2)
     omega
    simp only [List.length_map] at hb
    simp only [reachBytes,LIM] at *
    omega
   have key:∀ i,i<len→a.spot=none∧a.block<W.heap.size∧∃ x ds,Enc W (GW W) t x ds∧c3E W a.block (a.off+i*t.sz) ds:=by
    have one:∀ i,i<len→∃ (ds:List Value) (x:t.D),ds.length=t.sz∧Enc W (GW W) t x ds∧∀ j d,ds[j]?=some d→W.cell? ((a.add (i*t.sz)).add j)=some d:=by
     intro i hi
     have h0:=hfx i hi
     rw [List.getElem?_eq_getElem (by omega)] at h0
     simp only [Option.bind_eq_some_iff] at h0
     obtain ⟨ds,h1,h2⟩:=h0
     obtain ⟨h3,h4⟩:=f4L h1
     rw [hTe.size] at h3 h4
     obtain ⟨x,hx⟩:=ih.1 m e ds (elems[i]'(by omega)).1 (elems[i]'(by omega)).2 hTe hA h2 fun k hk=>hw k (.inr (.inl (c3D (i:=i) (by rw [List.getElem?_map,List.getElem?_eq_getElem (by omega)]; rfl) k hk)))
     exact ⟨ds,x,h3,hx,h4⟩
    intro i hi
    obtain ⟨ds,x,h1,h2,h3⟩:=one i hi
    obtain ⟨ds0,_,g1,_,g3⟩:=one 0 (by omega)
    have c0:=g3 0 (ds0[0]'(by omega)) (List.getElem?_eq_getElem _)
    simp only [Nat.zero_mul] at c0
    have e0:(a.add 0).add 0=a:=by simp [Addr.add]
    rw [e0] at c0
    obtain ⟨hs,hlt⟩:=g8W c0
    refine ⟨hs,hlt,x,ds,h2,fun j d hd=>?_⟩
    have:=h3 j d hd
    rw [addr_add hs,addr_add rfl] at this
    exact this
   obtain ⟨l,hl1,hl2⟩:=d7K len (fun i x=>∃ ds,Enc W (GW W) t x ds∧c3E W a.block (a.off+i*t.sz) ds) fun i hi=>(key i hi).2.2
   refine ⟨l,some a,cap,?_,?_,?_,?_⟩
   ·
    show [Value.slice (some a) len cap]=[Value.slice (some a) l.length cap]; rw [hl1]
   ·
    show l.length≤cap; omega
   ·
    show l.length≤LIM; omega
   ·
    by_cases h0:len=0
    ·
     left; show l=[]; exact List.eq_nil_of_length_eq_zero (by omega)
    ·
     obtain ⟨h1,h2,_⟩:=key 0 (by omega)
     exact .inr ⟨a,rfl,h1,h2,hl2⟩
 | opq=>exact ⟨fun fuel id cs d p hT hA=>by simp [f1Z] at hA,fun fuel r o cs xs h=>(nofld _ (by simp) (by simp) _ _ h).elim⟩
 | fnc=>exact ⟨fun fuel id cs d p hT hA=>by simp [f1Z] at hA,fun fuel r o cs xs h=>(nofld _ (by simp) (by simp) _ _ h).elim⟩
end
theorem f4G {P:Program} {W:World} {rr:Reach} {base:Nat} {id:TypeId} {v:Value} {t:Ty} (hT:TOk P t id) (hne:t≠.opq) (hnf:t≠.fnc) (h:Value.okWide P W rr base id v):v=mkV t.isAgg v.cells.toList:=by
 have agg:(∃ cs,v=.agg cs)→v=mkV true v.cells.toList:=by
  rintro ⟨cs,rfl⟩
  show Value.agg cs=.agg _
  congr 1
 cases t with
 | int k=>obtain ⟨n,rfl⟩:=Go.WideShapes.okWide_int hT.2 h; rfl
 | bool=>obtain ⟨n,rfl⟩:=Go.WideShapes.okWide_bool hT.2 h; rfl
 | str=>obtain ⟨n,rfl⟩:=Go.WideShapes.okWide_string hT.2 h; rfl
 | sl t=>obtain ⟨_,e,hu,_⟩:=hT; obtain ⟨a,l,c,rfl⟩:=Go.WideShapes.okWide_slice hu h; rfl
 | opq=>exact (hne rfl).elim
 | fnc=>exact (hnf rfl).elim
 | nil=>obtain ⟨_,hu⟩:=hT; simp only [Value.okWide,hu] at h; exact agg ⟨_,h.choose_spec.1⟩
 | cons a b=>obtain ⟨_,fs,f,r,hu,_⟩:=hT; simp only [Value.okWide,hu] at h; exact agg ⟨_,h.choose_spec.1⟩
 | arr n t=>obtain ⟨_,e,hu,_⟩:=hT; simp only [Value.okWide,hu] at h; exact agg ⟨_,h.choose_spec.1⟩
def Arr.all {X:Type} (p:X→Prop):(n:Nat)→Arr X n→Prop
 | 0,_=>True
 | n+1,x=>p x.1∧Arr.all p n x.2
def Ty.bd:(t:Ty)→t.D→Prop
 | .str,x=>(show List (I .u8) from x).length≤LIM
 | .cons a b,x=>a.bd x.1∧b.bd x.2
 | .arr n t,x=>Arr.all t.bd n x
 | .sl t,x=>(show List t.D from x).length≤LIM∧∀ (i:Nat) (y:t.D),(show List t.D from x)[i]?=some y→t.bd y
 | .int _,_=>True
 | .bool,_=>True
 | .nil,_=>True
 | .opq,_=>True
 | .fnc,_=>True
theorem d9S {X:Type} {E:X→List Value→Prop} {p:X→Prop} (h:∀ x cs,E x cs→p x):∀ (n:Nat) (x:Arr X n) (cs:List Value),b4V E n x cs→Arr.all p n x
 | 0,_,_,_=>trivial
 | n+1,x,cs,he=>by
  obtain ⟨c1,c2,_,h1,h2⟩:=he
  exact ⟨h _ _ h1,d9S h n x.2 c2 h2⟩
theorem h2D {W:World} {G:Nat→Prop}:∀ (t:Ty) (x:t.D) (cs:List Value),Enc W G t x cs→t.bd x:=by
 intro t
 induction t with
 | int k=>intro x cs _; trivial
 | bool=>intro x cs _; trivial
 | nil=>intro x cs _; trivial
 | opq=>intro x cs _; trivial
 | fnc=>intro x cs _; trivial
 | str=>intro x cs h; exact h.2
 | cons a b iha ihb=>intro x cs h; obtain ⟨c1,c2,_,h1,h2⟩:=h; exact ⟨iha _ _ h1,ihb _ _ h2⟩
 | arr n t ih=>intro x cs h; exact d9S (fun x cs=>ih x cs) n x cs h
 | sl t ih =>
  intro x cs h
  obtain ⟨a,c,_,_,hl,hx⟩:=h
  refine ⟨hl,fun i y hy=>?_⟩
  rcases hx with hx | ⟨ad,_,_,_,hr⟩
  ·
   rw [hx] at hy; simp at hy
  ·
   obtain ⟨ds,h1,_⟩:=hr i y hy
   exact ih y ds h1
def g1B:(ts:List Ty)→ShD (ts.map .pl)→Prop
 | [],_=>True
 | t::ts,x=>t.bd x.1∧g1B ts x.2
def e7D (P:Program):List Ty→List TypeId→Bool
 | [],[]=>true
 | t::ts,id::ids=>e6C P t id&&(f1Z P t id&&(P.readableRec id&&(Nat.blt id P.types.size&&e7D P ts ids)))
 | _,_=>false
section
variable {H:Type} {enc:TypeId×Value→H} {P:Program} {W:World}
def cx0 (W:World):Cx:=⟨W,GW W,fun _=>.bool false,[]⟩
theorem f0N {rr:Reach} {base:Nat}:∀ (ts:List Ty) (ids:List TypeId) (vs:List Value) (ds:List (DataW H)) (ps:List MemPlace),e7D P ts ids=true →
  DataW.TrodAll enc P W 0 (fun _=>true) true ids vs ds ps→(∀ (j:Nat) t v,ids[j]?=some t→vs[j]?=some v→Value.okWide P W rr base t v) →
  (∀ n∈DataW.weightsEach P ids ds,n≤reachBytes)→ds.length=ts.length∧∃ x:ShD (ts.map .pl),g1B ts x∧All2 (VOk (cx0 W)) (a1W (ts.map .pl) x) vs
 | [],[],vs,ds,ps,_,hA,_,_=>by
  obtain ⟨rfl,rfl,rfl⟩:=Go.ChangeShapes.trodAll_nil hA
  exact ⟨rfl,(),trivial,trivial⟩
 | [],_::_,_,_,_,h,_,_,_=>by cases h
 | _::_,[],_,_,_,h,_,_,_=>by cases h
 | t::ts,id::ids,vs,ds,ps,h,hA,hv,hw=>by
  simp only [e7D,Bool.and_eq_true] at h
  obtain ⟨h1,h2,_,_,h5⟩:=h
  obtain ⟨v,vs',d,ds',p,q,rfl,rfl,rfl,⟨fuel,hd⟩,hrest⟩:=Go.ChangeShapes.trodAll_cons hA
  simp only [DataW.weightsEach,List.mem_append] at hw
  have hT:=(f0I P t).1 id h1
  obtain ⟨x,hx⟩:=(e8J t).1 fuel id _ d p hT h2 hd fun n hn=>hw n (.inl hn)
  obtain ⟨hl,y,hbd,hy⟩:=f0N ts ids vs' ds' q h5 hrest (fun j t v ht hv'=>hv (j+1) t v (by simpa using ht) (by simpa using hv')) fun n hn=>hw n (.inr hn)
  refine ⟨by simp [hl],(x,y),⟨h2D t x _ hx,hbd⟩,?_,hy⟩
  refine ⟨_,hx,?_⟩
  exact f4G hT (by rintro rfl; simp [f1Z] at h2) (by rintro rfl; simp [f1Z] at h2) (hv 0 id v rfl rfl)
theorem d1L (hl:laidOutB P=true) {W':World} (hb:Go.RowKit.Below W.heap.size W W'):∀ (ts:List Ty) (ids:List TypeId) (vs:List Value) (ds:List (DataW H)) (ps:List MemPlace),e7D P ts ids=true →
  DataW.TrodAll enc P W 0 (fun _=>true) true ids vs ds ps→(∀ x∈ps,x.block<W.heap.size)→DataW.TrodAll enc P W' 0 (fun b=>decide (b<W.heap.size)) true ids vs ds ps
 | [],[],vs,ds,ps,_,hA,_=>by
  obtain ⟨rfl,rfl,rfl⟩:=Go.ChangeShapes.trodAll_nil hA
  exact Go.ChangeShapes.trodAll_mk0
 | [],_::_,_,_,_,h,_,_=>by cases h
 | _::_,[],_,_,_,h,_,_=>by cases h
 | t::ts,id::ids,vs,ds,ps,h,hA,hlt=>by
  simp only [e7D,Bool.and_eq_true] at h
  obtain ⟨_,_,h3,h4,h5⟩:=h
  obtain ⟨v,vs',d,ds',p,q,rfl,rfl,rfl,hd,hrest⟩:=Go.ChangeShapes.trodAll_cons hA
  refine ⟨p,q,Go.RowKit.Below.trod hl h3 (Nat.lt_of_succ_le (Nat.le_of_ble_eq_true h4)) hd hb fun x hx=>hlt x (by simp [hx]),?_,rfl⟩
  exact d1L hl hb ts ids vs' ds' q h5 hrest fun x hx=>hlt x (by simp [hx])
theorem g9T:Start (cx0 W):=by
 have hu:∀ b,a0L (cx0 W).H b=.unborn:=fun b=>by simp [cx0,a0L]
 refine ⟨fun b=>?_,fun b b' r h=>?_,fun r hr=>⟨hr,fun b h=>?_⟩⟩
 ·
  unfold BlkOk; rw [hu]; trivial
 ·
  rw [hu] at h; cases h
 ·
  rw [hu] at h; cases h
theorem e7M {C:Checked} {f:FuncId} {fn:Func} {s:ChangeSpec} {ts:List Ty} {bt:TypeId} {F:(⟨ts.map .pl,[]⟩:Tm).D→Option (⟨[.pl .bool],[]⟩:Tm).D}
  (hl : laidOutB C.prog = true) (hfn : C.prog.funcs[f]? = some fn) (hbody : fn.body.isSome = true) (hname : (fn.name == "runtime.NumGoroutine") = false)
  (hargs:e7D C.prog ts fn.params.toList=true) (hres:fn.resultTypes=#[bt]) (hbt:C.prog.underlying bt=some .bool) (hvars:s.vars=[])
  (hs:∀ ds:List (DataW H),ds.length=ts.length→s.fn H ds={ results:=[.lit (.bool true)],args:=ds })
  (hcon:a0Z C.prog f ⟨⟨ts.map .pl,[]⟩,⟨[.pl .bool],[]⟩,F⟩)
  (base:Nat) (args:Array Value) (ds gs:List (DataW H)) (before:List MemPlace)
  (hval:∀ (j:Nat) t v,fn.params[j]?=some t→args[j]?=some v→Value.okWide C.prog W .any base t v)
  (hW:DataW.Whole enc C.prog fn.params.toList s.vars false W args.toList ds gs before)
  (hF:∀ x p,DataW.TrodAll enc C.prog W 0 (fun _=>true) true fn.params.toList args.toList ds p→g1B ts x→All2 (VOk (cx0 W)) (a1W (ts.map .pl) x) args.toList→F (x,())=some ((true,()),()))
  (hsz:(DataW.weightsEach C.prog (fn.params.toList++s.plain.varTypes C.prog) (ds++gs)).all (·≤reachBytes)=true) :
  Calls C.prog f args W fun e W'=>∃ v,e=.returned v∧s.post enc C.prog fn false true false false W args v W':=by
 have hW':=hW
 obtain ⟨p,q,hA,hV,rfl,hfz,hnd⟩:=hW
 rw [hvars] at hV
 obtain ⟨rfl,rfl⟩:=Go.ChangeShapes.trodVars_none hV
 have hvt:s.plain.varTypes C.prog=[]:=by simp [DataSpec.varTypes,ChangeSpec.plain,hvars]
 rw [hvt,List.append_nil,List.append_nil,List.all_eq_true] at hsz
 obtain ⟨hlen,x,hbd,hx⟩:=f0N (P:=C.prog) ts fn.params.toList args.toList ds p hargs hA
  (fun j t v h1 h2=>hval j t v (by rw [← Array.getElem?_toList]; exact h1) (by rw [← Array.getElem?_toList]; exact h2)) fun n hn=>of_decide_eq_true (hsz n hn)
 have key:=hcon (x,()) ((true,()),()) (hF x p hA hbd hx) (cx0 W) args.toList g9T rfl hx
 rw [Array.toArray_toList] at key
 obtain ⟨b,hb⟩:=Option.isSome_iff_exists.1 hbody
 have hent:=b9B (args:=args) (w:=W) hfn hb hname
 rcases key with ⟨v,w',h1,_⟩ | ⟨_,h⟩
 ·
  change (callFunc f args).run C.prog W=_ at h1
  rw [hent] at h1
  cases h1
 ·
  refine h.mono fun e w' hr=>?_
  obtain ⟨v,he,c',hw,hH,hv,hM,_⟩:=hr
  subst he hw
  refine ⟨v,rfl,?_⟩
  have hown:∀ r,¬ d0H (cx0 W) r:=by
   rintro r ⟨b,hb,_⟩
   simp [cx0,a0L,live] at hb
  have bel:Go.RowKit.Below W.heap.size W c'.w:=⟨hM.os,hM.tape,hM.output,hM.size,fun k hk=>hM.frame k hk (hown k)⟩
  obtain ⟨cs,hcs,hv⟩:=hv
  have hcs:cs=[.bool true]:=hcs
  subst hcs
  have hv:v=.bool true:=hv
  subst hv
  have hfnH:=hs ds hlen
  refine ⟨ds,[],_,[],p,[],hW',?_,?_,?_,bel.frame _,fun h=>by cases h⟩
  ·
   rw [List.append_nil,hfnH,hres]
   exact Go.ChangeShapes.trodAll_mk1 (Go.RowKit.shut_bool hbt _)
  ·
   rw [List.append_nil,hfnH]
   refine d1L hl bel ts _ _ _ _ hargs hA fun x hx=>?_
   exact DataW.TrodAll.lt hA x hx
  ·
   rw [List.append_nil,hfnH,hvars]
   rfl
theorem f2S {C:Checked} {f:FuncId} {fn:Func} {s:ChangeSpec} {ts:List Ty} {bt:TypeId} {F:(⟨ts.map .pl,[]⟩:Tm).D→Option (⟨[.pl .bool],[]⟩:Tm).D}
  (hl : laidOutB C.prog = true) (hfn : C.prog.funcs[f]? = some fn) (hbody : fn.body.isSome = true) (hname : (fn.name == "runtime.NumGoroutine") = false)
  (hargs:e7D C.prog ts fn.params.toList=true) (hres:fn.resultTypes=#[bt]) (hbt:C.prog.underlying bt=some .bool) (hvars:s.vars=[])
  (hs:∀ ds:List (DataW H),ds.length=ts.length→s.fn H ds={ results:=[.lit (.bool true)],args:=ds })
  (hcon:a0Z C.prog f ⟨⟨ts.map .pl,[]⟩,⟨[.pl .bool],[]⟩,F⟩) (hF:∀ x,g1B ts x→F (x,())=some ((true,()),()))
  (base:Nat) (args:Array Value) (ds gs:List (DataW H)) (before:List MemPlace)
  (hval:∀ (j:Nat) t v,fn.params[j]?=some t→args[j]?=some v→Value.okWide C.prog W .any base t v)
  (hW:DataW.Whole enc C.prog fn.params.toList s.vars false W args.toList ds gs before)
  (hsz:(DataW.weightsEach C.prog (fn.params.toList++s.plain.varTypes C.prog) (ds++gs)).all (·≤reachBytes)=true) :
  Calls C.prog f args W fun e W'=>∃ v,e=.returned v∧s.post enc C.prog fn false true false false W args v W' :=
 e7M hl hfn hbody hname hargs hres hbt hvars hs hcon base args ds gs before hval hW (fun x _ _ h _=>hF x h) hsz
end
end Sym

/- Facts of the program that the row of ScriptEncodeSteps wants, reckoned by the kernel one by one. -/
namespace Go.Proofs.YtlcgmghodojmaaaGreat.scriptEncodeSteps
open Go.ChangeShapes Go.WideShapes Go.ChangeAt Go.RowKit Sym
theorem own:ownKnob Tryz.prog.godebug=none:=by kernel_rfl
theorem laidOut:laidOutB Tryz.prog=true:=by kernel_rfl
theorem c0:(Rows.scriptEncodeStepsRow.inPlace == Tryz.pinned.checked.prog.inPlace 8)=true:=by kernel_rfl
theorem c1:(Rows.scriptEncodeStepsRow.unfollowed == Tryz.pinned.checked.prog.unfollowed 8)=true:=by kernel_rfl
theorem c2:(Rows.scriptEncodeStepsRow.recurses == Tryz.pinned.checked.prog.recurses 8)=true:=by kernel_rfl
theorem c3:(Rows.scriptEncodeStepsRow.named == Tryz.pinned.checked.prog.varsNamed 8)=true:=by kernel_rfl
theorem c4:(mapsRowed Tryz.pinned.checked.prog)=true:=by kernel_rfl
theorem closed:joinedFacts Tryz.pinned.checked.prog 8 Tryz.f8 Rows.scriptEncodeStepsSpec Rows.scriptEncodeStepsRow=true:=by
 unfold joinedFacts
 rw [c0,c1,c2,c3,c4]
 kernel_rfl
end Go.Proofs.YtlcgmghodojmaaaGreat.scriptEncodeSteps
