/- Parameters: which are valid. -/
import Derived.Test.YtlcgmghodojmaaaGreatPart3
import Derived.Test.YtlcgmghodojmaaaGreatPart5
import Derived.Test.YtlcgmghodojmaaaGreatPart4
namespace Sym
open Go
abbrev Prm:Type:=I .u64×I .u64×I .u64×U×I .u64×U×I .u64×U×I .u64×I .u64×I .u64×I .u64×Unit
def h8F (p:Prm):Nat→U
 | 1=>d3T p.1
 | 2=>d3T p.2.1
 | 3=>d3T p.2.2.1
 | 4=>p.2.2.2.1
 | 5=>d3T p.2.2.2.2.1
 | 6=>p.2.2.2.2.2.1
 | 7=>d3T p.2.2.2.2.2.2.1
 | 8=>p.2.2.2.2.2.2.2.1
 | 9=>d3T p.2.2.2.2.2.2.2.2.1
 | 10=>d3T p.2.2.2.2.2.2.2.2.2.1
 | 11=>d3T p.2.2.2.2.2.2.2.2.2.2.1
 | _=>d3T p.2.2.2.2.2.2.2.2.2.2.2.1
def loK (p:Prm):Nat→I .u64
 | 1=>I.of .u64 1
 | 2=>I.of .u64 0
 | 3=>I.of .u64 1
 | 4=>I.of .u64 1
 | 5=>I.of .u64 1
 | 6=>I.of .u64 0
 | 7=>I.of .u64 0
 | 8=>I.of .u64 0
 | 9=>I.of .u64 1
 | 10=>I.of .u64 1
 | 11=>I.of .u64 0
 | _=>p.2.2.2.2.2.2.2.2.2.2.1
def hiK:Nat→I .u64
 | 1=>I.of .u64 1099511627776
 | 2=>I.of .u64 1048576
 | 3=>I.of .u64 1048576
 | 4=>I.of .u64 18446744073709551615
 | 5=>I.of .u64 1099511627776
 | 6=>I.of .u64 18446744073709551615
 | 7=>I.of .u64 10000
 | 8=>I.of .u64 18446744073709551615
 | 9=>I.of .u64 1099511627776
 | 10=>I.of .u64 1048576
 | 11=>I.of .u64 1048576
 | _=>I.of .u64 16777216
def okK (p:Prm) (k:Nat):Bool:=decide ((loK p k).nat≤(h8F p k).val∧(h8F p k).val≤(hiK k).nat)
def fiF (p:Prm):Nat→Nat→I .i64
 | 0,_=>I.of .i64 0
 | n+1,k=>if okK p k=true then fiF p n (k+1) else I.of .i64 (k:Int)
def fiS (p:Prm):I .i64:=fiF p 12 1
theorem h7F (a b c:I .u64):a3Q K0 ((a,b,c,()),())=some ((decide (b.nat≤a.nat∧a.nat≤c.nat),()),()):=by
 have ha:=a2G a
 have hb:=a2G b
 have hc:=a2G c
 refine Wp.out (T:=fun o=>o=some ((decide (b.nat≤a.nat∧a.nat≤c.nat),()),())) ?_
 unfold a3Q
 refine Wp.brn (fun h=>?_) (fun h=>?_)
 ·
  rw [iff_leb] at h
  show some ((I.leb a c,()),())=_
  have:I.leb a c=decide (b.nat≤a.nat∧a.nat≤c.nat):=by
   by_cases h2:a.nat≤c.nat
   ·
    rw [decide_eq_true (by omega),iff_leb]; omega
   ·
    rw [decide_eq_false (by omega),niff_leb]; omega
  rw [this]
 ·
  rw [niff_leb] at h
  show some ((false,()),())=_
  rw [decide_eq_false (by omega)]
theorem d7J (a:U):a8D K0 ((a,()),())=some (if a.val<18446744073709551616 then ((a.1,true,()),()) else ((I.of .u64 0,false,()),())):=by
 refine Wp.out (T:=fun o=>o=some (if a.val<18446744073709551616 then ((a.1,true,()),()) else ((I.of .u64 0,false,()),()))) ?_
 have h0:=a3A a.1
 have n1:=a2G a.2.1
 have n2:=a2G a.2.2.1
 have n3:=a2G a.2.2.2.1
 have hv:a.val=a.1.nat+18446744073709551616*(a.2.1.nat+18446744073709551616*(a.2.2.1.nat+18446744073709551616*a.2.2.2.1.nat)):=rfl
 have e0:(I.of .u64 0).val=0:=rfl
 unfold a8D
 refine Wp.brn (fun h=>?_) (fun h=>?_)
 ·
  rw [iff_neb,e0] at h; replace h:a.2.1.val≠0:=h
  show some ((I.of .u64 0,false,()),())=_
  rw [if_neg (by omega)]
 ·
  rw [niff_neb,e0] at h; replace h:a.2.1.val=0:=h
  refine Wp.brn (fun h2=>?_) (fun h2=>?_)
  ·
   rw [iff_neb,e0] at h2; replace h2:a.2.2.1.val≠0:=h2
   show some ((I.of .u64 0,false,()),())=_
   rw [if_neg (by omega)]
  ·
   rw [niff_neb,e0] at h2; replace h2:a.2.2.1.val=0:=h2
   refine Wp.brn (fun h3=>?_) (fun h3=>?_)
   ·
    rw [iff_neb,e0] at h3; replace h3:a.2.2.2.1.val≠0:=h3
    show some ((I.of .u64 0,false,()),())=_
    rw [if_neg (by omega)]
   ·
    rw [niff_neb,e0] at h3; replace h3:a.2.2.2.1.val=0:=h3
    show some ((a.1,true,()),())=_
    rw [if_pos (by omega)]
theorem d2K (a:U) (b:I .u64):a6N K0 ((a,b,()),())=some ((decide (b.nat≤a.val∧a.val≤18446744073709551615),()),()):=by
 refine Wp.out (T:=fun o=>o=some ((decide (b.nat≤a.val∧a.val≤18446744073709551615),()),())) ?_
 have hb:=a2G b
 have h0:=a2G a.1
 have h0':=a3A a.1
 have hv:a.val=a.1.nat+18446744073709551616*(a.2.1.nat+18446744073709551616*(a.2.2.1.nat+18446744073709551616*a.2.2.2.1.nat)):=rfl
 unfold a6N
 refine Wp.optF (d7J a) ?_
 by_cases h:a.val<18446744073709551616
 ·
  rw [if_pos h]
  refine Wp.brnT rfl ?_
  show some ((I.leb b a.1,()),())=_
  have:I.leb b a.1=decide (b.nat≤a.val∧a.val≤18446744073709551615):=by
   by_cases h2:b.nat≤a.1.nat
   ·
    rw [decide_eq_true (by omega),iff_leb]; omega
   ·
    rw [decide_eq_false (by omega),niff_leb]; omega
  rw [this]
 ·
  rw [if_neg h]
  refine Wp.brnF rfl ?_
  show some ((false,()),())=_
  rw [decide_eq_false (by omega)]
theorem g2A (a b c:I .u64):a3Q K0 ((a,b,c,()),())=some ((decide (b.nat≤(d3T a).val∧(d3T a).val≤c.nat),()),()):=by
 rw [h7F,c0S]
theorem h1R {R:Type} (b:Bool) (x y:R):brn (a6O b) x y=if b=true then y else x:=by cases b<;>rfl
theorem d3U (p:Prm):a7I K0 ((p,()),())=some ((fiS p,()),()):=by
 refine Wp.out (T:=fun o=>o=some ((fiS p,()),())) ?_
 unfold a7I
 refine Wp.optF (g2A _ _ _) (Wp.optF (g2A _ _ _) (Wp.optF (g2A _ _ _) (Wp.optF (d2K _ _) (Wp.optF (g2A _ _ _) (Wp.optF (d2K _ _) (Wp.optF (g2A _ _ _) (Wp.optF (d2K _ _) (Wp.optF (g2A _ _ _) (Wp.optF (g2A _ _ _) (Wp.optF (g2A _ _ _) (Wp.optF (g2A _ _ _) ?_)))))))))))
 have step:∀ (n k:Nat) (r:Option (((I .i64)×Unit)×Unit)),r=some ((fiF p n (k+1),()),())→brn (a6O (okK p k)) (some ((I.of .i64 (k:Int),()),())) r=some ((fiF p (n+1) k,()),()):=by
  intro n k r hr
  rw [h1R,hr]
  show _=some ((if okK p k=true then fiF p n (k+1) else I.of .i64 (k:Int),()),())
  split<;>rfl
 exact step 11 1 _ (step 10 2 _ (step 9 3 _ (step 8 4 _ (step 7 5 _ (step 6 6 _ (step 5 7 _ (step 4 8 _ (step 3 9 _ (step 2 10 _ (step 1 11 _ (step 0 12 _ rfl)))))))))))
def a8M (p:Prm):Bool:=I.eqb (fiS p) (I.of .i64 0)
theorem b8B (p:Prm):a3S K0 ((p,()),())=some ((a8M p,()),()):=by
 refine Wp.out (T:=fun o=>o=some ((a8M p,()),())) ?_
 unfold a3S
 exact Wp.optF (d3U p) rfl
theorem e9P (p:Prm):∀ (n k:Nat),1≤k→k+n≤14→(I.eqb (fiF p n k) (I.of .i64 0)=true↔∀ j,k≤j→j<k+n→okK p j=true)
 | 0,k,h1,h2=>⟨fun _ j _ _=>by omega,fun _=>rfl⟩
 | n+1,k,h1,h2=>by
  show I.eqb (if okK p k=true then fiF p n (k+1) else I.of .i64 (k:Int)) (I.of .i64 0)=true↔_
  by_cases h:okK p k=true
  ·
   rw [if_pos h,e9P p n (k+1) (by omega) (by omega)]
   constructor
   ·
    intro hj j h3 h4
    by_cases hjk:j=k
    ·
     subst hjk; exact h
    ·
     exact hj j (by omega) (by omega)
   ·
    intro hj j h3 h4
    exact hj j (by omega) (by omega)
  ·
   rw [if_neg h,iff_eqb,b6T ⟨by omega,by omega⟩]
   constructor
   ·
    intro h3
    replace h3:(k:Int)=0:=h3
    omega
   ·
    intro hj
    exact absurd (hj k (by omega) (by omega)) h
theorem d2P (p:Prm):a8M p=true↔∀ j,1≤j→j<13→okK p j=true:=e9P p 12 1 (by omega) (by omega)
theorem f2O {p:Prm} (h:a8M p=true):1≤p.2.2.2.2.2.2.2.2.1.nat∧p.2.2.2.2.2.2.2.2.1.nat≤1099511627776∧1≤p.2.2.2.2.2.2.2.2.2.1.nat:=by
 rw [d2P] at h
 have h9:=of_decide_eq_true (h 9 (by omega) (by omega))
 have h10:=of_decide_eq_true (h 10 (by omega) (by omega))
 replace h9:(I.of .u64 1).nat≤(d3T p.2.2.2.2.2.2.2.2.1).val∧(d3T p.2.2.2.2.2.2.2.2.1).val≤(I.of .u64 1099511627776).nat:=h9
 replace h10:(I.of .u64 1).nat≤(d3T p.2.2.2.2.2.2.2.2.2.1).val∧(d3T p.2.2.2.2.2.2.2.2.2.1).val≤(I.of .u64 1048576).nat:=h10
 rw [c0S] at h9 h10
 have e1:(I.of .u64 1).nat=1:=rfl
 have e2:(I.of .u64 1099511627776).nat=1099511627776:=rfl
 rw [e1] at h9 h10
 rw [e2] at h9
 exact ⟨h9.1,h9.2,h10.1⟩
end Sym

/- The price of a unit: what the program computes. -/
namespace Sym
open Go
def d5N (n o:Int) (u E J:Nat):S×I .i64 :=
 if (n-o).natAbs<U.top then
  if (-n / (E:Int)-(n-o) / (u:Int)).natAbs<U.top then
   if ((-n / (E:Int)-(n-o) / (u:Int))*(u:Int)).natAbs<U.top then (S.of ((-n / (E:Int)-(n-o) / (u:Int))*(u:Int) / ((E / J+u:Nat):Int)),I.of .i64 0)
   else (S.of 0,I.of .i64 4)
  else (S.of 0,I.of .i64 4)
 else (S.of 0,I.of .i64 4)
theorem b4H {c:Bool} (h:a6O c=true):c=false:=by
 cases c
 ·
  rfl
 ·
  cases h
theorem b4I {c:Bool} (h:a6O c=false):c=true:=by
 cases c
 ·
  cases h
 ·
  rfl
def Prm.eq (p:Prm):I .u64:=p.2.2.2.2.2.2.2.2.1
def Prm.inertia (p:Prm):I .u64:=p.2.2.2.2.2.2.2.2.2.1
def c3Y (a b:S) (u:I .u64) (p:Prm):S×I .i64 :=
 if a8M p=true then
  if b0O a=true then
   if b0O b=true then
    if u.nat=0 then (S.of 0,I.of .i64 2)
    else d5N a.int b.int u.nat (Prm.eq p).nat (Prm.inertia p).nat
   else (S.of 0,I.of .i64 2)
  else (S.of 0,I.of .i64 2)
 else (S.of 0,I.of .i64 15)
theorem f9E {a b:S} {u:I .u64} {p:Prm} (hp:a8M p=true) (ha:b0O a=true) (hb:b0O b=true) (hu:u.nat≠0):c3Y a b u p=d5N a.int b.int u.nat (Prm.eq p).nat (Prm.inertia p).nat:=by
 unfold c3Y
 rw [if_pos hp,if_pos ha,if_pos hb,if_neg hu]
theorem d4H (u:I .u64):I.eqb u (I.of .u64 0)=true↔u.nat=0:=by
 rw [iff_eqb]
 have:=a2G u
 have e0:(I.of .u64 0).val=0:=rfl
 omega
def c5L (c:U) (a b:S) (u:I .u64) (p:Prm):U×I .i64 :=
 if a8M p=true then
  if b0O a=true then
   if b0O b=true then
    if u.nat=0 then (c,I.of .i64 0)
    else if I.neb (c3Y a b u p).2 (I.of .i64 0)=true then (U.of 0,(c3Y a b u p).2) else d9D c (c3Y a b u p).1
   else (U.of 0,I.of .i64 2)
  else (U.of 0,I.of .i64 2)
 else (U.of 0,I.of .i64 15)
end Sym

/- The price of a unit: the laws over valid parameters. -/
namespace Sym
open Go
theorem c8G (a b:I .u64) (h:a.nat+b.nat<18446744073709551616):(I.add a b).nat=a.nat+b.nat:=by
 rw [g6B]; exact Nat.mod_eq_of_lt h
end Sym

/- The price of a unit: unchanged, direction, damped. -/
namespace Sym
open Go
theorem f9L {n o:Int} {u E J:Nat} (h1:(n-o).natAbs<U.top) (h2:(-n / (E:Int)-(n-o) / (u:Int)).natAbs<U.top) (h3:((-n / (E:Int)-(n-o) / (u:Int))*(u:Int)).natAbs<U.top):d5N n o u E J=(S.of ((-n / (E:Int)-(n-o) / (u:Int))*(u:Int) / ((E / J+u:Nat):Int)),I.of .i64 0):=by
 unfold d5N
 rw [if_pos h1,if_pos h2,if_pos h3]
end Sym

/- The price of a unit: the reference computes the same. -/
namespace Sym
open Go
theorem bd3 {n:Nat} (h:n<3*U.top):Bd n:=Nat.lt_trans h (by decide)
theorem bd4 {n:Nat} (h:n<3*U.top*18446744073709551616):Bd n:=Nat.lt_trans h (by decide)
theorem e7P {l:List Dg} {x:I .u64} (h:IsB l x.nat):l.length≤4:=h.len.2 (Nat.lt_of_lt_of_le (a3A x) (by decide))
theorem g9W {l:List Dg} {n:Nat} (h:IsB l n):IsSB (false,l,()) (n:Int):=⟨(decide_eq_false (by omega)).symm,by rw [Int.natAbs_natCast]; exact h⟩
theorem f7R (a b:S) (u:I .u64) (p:Prm):b2W K0 ((a,b,u,p,()),())=some (((c3Y a b u p).1,(c3Y a b u p).2,()),()):=by
 refine Wp.out (T:=fun o=>o=some (((c3Y a b u p).1,(c3Y a b u p).2,()),())) ?_
 unfold b2W
 refine Wp.optF (b8B p) ?_
 refine Wp.brn (fun h=>?_) (fun h=>?_)
 ·
  have hp:a8M p=false:=b4H h
  unfold c3Y
  rw [hp]
  rfl
 have hp:a8M p=true:=b4I h
 refine Wp.jn (fun s=>s.1.1=u∧s.2.1=a∧s.2.2.1=b∧s.2.2.2.1=p∧b0O a=true∧b0O b=true∧u.nat≠0) ?_ ?_
 ·
  rintro ⟨⟨u',⟨⟩⟩,a',b',p',z',⟨⟩⟩ ⟨e0,e1,e2,e3,ha,hb,hu⟩
  simp only at e0 e1 e2 e3
  subst e0 e1 e2 e3
  obtain ⟨hE1,hE2,hJ⟩:1≤(Prm.eq p').nat∧(Prm.eq p').nat≤1099511627776∧1≤(Prm.inertia p').nat:=f2O hp
  have htop:U.top=115792089237316195423570985008687907853269984665640564039457584007913129639936:=rfl
  rw [f9E hp ha hb hu]
  have hx:=S.lt a'
  have hy:=S.lt b'
  have hun:=a3A u'
  obtain ⟨s2,q2,S2⟩:=d2L a'
  refine Wp.optF q2 ?_
  obtain ⟨s3,q3,S3⟩:=d2V S2 (Bd.of_top hx)
  refine Wp.optF q3 ?_
  obtain ⟨l4,q4,B4⟩:=a1N (Prm.eq p')
  refine Wp.optF q4 ?_
  have L4:=e7P B4
  obtain ⟨s5,q5,S5⟩:=e7S S3 B4 (by omega) (Bd.of_top (by omega)) (by omega)
  refine Wp.optF q5 (Wp.optF q2 ?_)
  obtain ⟨s7,q7,S7⟩:=d2L b'
  refine Wp.optF q7 ?_
  obtain ⟨s8,q8,S8⟩:=d2V S7 (Bd.of_top hy)
  refine Wp.optF q8 ?_
  obtain ⟨s9,q9,S9⟩:=e2T S2 S8 (Bd.of_top hx) (Bd.of_top (by omega)) (Bd.of_two (by omega))
  rw [← Int.sub_eq_add_neg] at S9
  refine Wp.optF q9 ?_
  obtain ⟨l10,q10,B10⟩:=a1N u'
  refine Wp.optF q10 ?_
  have L10:=e7P B10
  obtain ⟨s11,q11,S11⟩:=e7S S9 B10 hu (Bd.of_two (by omega)) (by omega)
  refine Wp.optF q11 ?_
  have f1:=d5I (-S.int a') (Prm.eq p').nat (by omega)
  have f2:=d5I (S.int a' - S.int b') u'.nat hu
  generalize hw:-S.int a' / ((Prm.eq p').nat:Int)=w at S5 f1
  generalize hv:(S.int a' - S.int b') / (u'.nat:Int)=v at S11 f2
  obtain ⟨s12,q12,S12⟩:=d2V S11 (Bd.of_two (by omega))
  refine Wp.optF q12 ?_
  obtain ⟨s13,q13,S13⟩:=e2T S5 S12 (Bd.of_two (by omega)) (Bd.of_two (by omega)) (bd3 (by omega))
  rw [← Int.sub_eq_add_neg] at S13
  refine Wp.optF q13 (Wp.optF q10 ?_)
  have h13:(w-v).natAbs<3*U.top:=by omega
  have hmul:(w-v).natAbs*u'.nat<3*U.top*18446744073709551616:=Nat.lt_of_le_of_lt (Nat.mul_le_mul_left _ (Nat.le_of_lt hun)) (Nat.mul_lt_mul_of_pos_right h13 (by decide))
  obtain ⟨s15,q15,S15⟩:=g6J S13 (g9W B10) (bd3 h13) (Bd.of_top (by omega)) (by rw [Int.natAbs_natCast]; exact bd4 hmul)
  refine Wp.optF q15 ?_
  have h15:((w-v)*(u'.nat:Int)).natAbs<3*U.top*18446744073709551616:=by rw [Int.natAbs_mul,Int.natAbs_natCast]; exact hmul
  refine Wp.jn (fun s=>s.1.1=u'∧s.2.1=p'∧s.2.2.2.1=s15∧(S.int a' - S.int b').natAbs<U.top∧(w-v).natAbs<U.top∧((w-v)*(u'.nat:Int)).natAbs<U.top) ?_ ?_
  ·
   rintro ⟨⟨u2,⟨⟩⟩,p2,z2,s2',⟨⟩⟩ ⟨e0,e1,e2,t1,t2,t3⟩
   simp only at e0 e1 e2
   subst e0 e1 e2
   obtain ⟨l17,q17,B17⟩:=a1N (Prm.eq p2)
   obtain ⟨l18,q18,B18⟩:=a1N (Prm.inertia p2)
   have L17:=e7P B17
   have L18:=e7P B18
   refine Wp.optF q17 (Wp.optF q18 ?_)
   obtain ⟨l19,m19,q19,B19,_⟩:=c7V B17 B18 (by omega) (by omega) (by omega)
   refine Wp.optF q19 (Wp.optF q10 ?_)
   have L19:l19.length≤4:=B19.len.2 (Nat.lt_of_le_of_lt (Nat.div_le_self _ _) (Nat.lt_of_lt_of_le (a3A (Prm.eq p2)) (by decide)))
   obtain ⟨l21,q21,B21⟩:=b3H B19 B10 (Nat.le_trans L19 (by decide)) (Nat.le_trans L10 (by decide))
   refine Wp.optF q21 ?_
   have hby:u2.nat≤(Prm.eq p2).nat / (Prm.inertia p2).nat+u2.nat:=Nat.le_add_left _ _
   have hby2:(Prm.eq p2).nat / (Prm.inertia p2).nat≤(Prm.eq p2).nat:=Nat.div_le_self _ _
   have L21:l21.length≤5:=B21.len.2 (Nat.lt_of_le_of_lt (show _≤1099511627776+18446744073709551616 by omega) (by decide))
   have hdz:d5N (S.int a') (S.int b') u2.nat (Prm.eq p2).nat (Prm.inertia p2).nat=(S.of ((w-v)*(u2.nat:Int) / (((Prm.eq p2).nat / (Prm.inertia p2).nat+u2.nat:Nat):Int)),I.of .i64 0):=by
    rw [f9L t1 (by rw [hw,hv]; exact t2) (by rw [hw,hv]; exact t3),hw,hv]
   rw [hdz]
   generalize (Prm.eq p2).nat / (Prm.inertia p2).nat+u2.nat=B at hby B21
   obtain ⟨s22,q22,S22⟩:=e7S S15 B21 (by omega) (bd4 h15) (Nat.le_trans L21 (by decide))
   refine Wp.optF q22 ?_
   have f3:=d5I ((w-v)*(u2.nat:Int)) B (by omega)
   refine Wp.optF (d5R S22 (Bd.of_top (by omega))) ?_
   rw [e6N (by omega)]
   rfl
  ·
   intro j hj
   have len9:=Bd.len S9.abs (Bd.of_two (by omega))
   have len13:=Bd.len S13.abs (bd3 h13)
   have len15:=Bd.len S15.abs (bd4 h15)
   refine Wp.optF (c5M S9.abs (Nat.lt_of_le_of_lt len9 (by decide))) ?_
   unfold d5N
   rw [hw,hv]
   by_cases t1:(S.int a' - S.int b').natAbs<U.top
   ·
    rw [if_pos t1]
    refine Wp.brnF (by show a6O (decide _)=false; rw [decide_eq_true t1]; rfl) ?_
    refine Wp.optF (c5M S13.abs (Nat.lt_of_le_of_lt len13 (by decide))) ?_
    by_cases t2:(w-v).natAbs<U.top
    ·
     rw [if_pos t2]
     refine Wp.brnF (by show a6O (decide _)=false; rw [decide_eq_true t2]; rfl) ?_
     refine Wp.optF (c5M S15.abs (Nat.lt_of_le_of_lt len15 (by decide))) ?_
     by_cases t3:((w-v)*(u'.nat:Int)).natAbs<U.top
     ·
      refine Wp.brnF (by show a6O (decide _)=false; rw [decide_eq_true t3]; rfl) ?_
      have:=hj ((u',()),(p',z',s15,())) ⟨rfl,rfl,rfl,t1,t2,t3⟩
      unfold d5N at this
      rw [hw,hv,if_pos t1,if_pos t2] at this
      exact this
     ·
      rw [if_neg t3]
      exact Wp.brnT (by show a6O (decide _)=true; rw [decide_eq_false t3]; rfl) rfl
    ·
     rw [if_neg t2]
     exact Wp.brnT (by show a6O (decide _)=true; rw [decide_eq_false t2]; rfl) rfl
   ·
    rw [if_neg t1]
    exact Wp.brnT (by show a6O (decide _)=true; rw [decide_eq_false t1]; rfl) rfl
 ·
  intro j hj
  refine Wp.optF (c0Z a) ?_
  refine Wp.brn (fun h=>?_) (fun h=>?_)
  ·
   have ha:b0O a=false:=b4H h
   unfold c3Y
   rw [if_pos hp,ha]
   rfl
  ·
   have ha:b0O a=true:=b4I h
   refine Wp.optF (c0Z b) ?_
   refine Wp.brn (fun h=>?_) (fun h=>?_)
   ·
    have hb:b0O b=false:=b4H h
    unfold c3Y
    rw [if_pos hp,if_pos ha,hb]
    rfl
   ·
    have hb:b0O b=true:=b4I h
    refine Wp.brn (fun h=>?_) (fun h=>?_)
    ·
     have hu:=(d4H u).1 h
     unfold c3Y
     rw [if_pos hp,if_pos ha,if_pos hb,if_pos hu]
     rfl
    ·
     have hu:u.nat≠0:=fun h0=>by
      rw [(d4H u).2 h0] at h; cases h
     exact hj _ ⟨rfl,rfl,rfl,rfl,ha,hb,hu⟩
theorem g0S (c:U) (a b:S) (u:I .u64) (p:Prm):b3V K0 ((c,a,b,u,p,()),())=some (((c5L c a b u p).1,(c5L c a b u p).2,()),()):=by
 refine Wp.out (T:=fun o=>o=some (((c5L c a b u p).1,(c5L c a b u p).2,()),())) ?_
 unfold b3V
 refine Wp.optF (b8B p) ?_
 refine Wp.brn (fun h=>?_) (fun h=>?_)
 ·
  have hp:a8M p=false:=b4H h
  unfold c5L
  rw [hp]
  rfl
 have hp:a8M p=true:=b4I h
 refine Wp.jn (fun s=>s.1.1=u∧s.2.1=c∧s.2.2.1=a∧s.2.2.2.1=b∧s.2.2.2.2.1=p∧b0O a=true∧b0O b=true) ?_ ?_
 ·
  rintro ⟨⟨u',⟨⟩⟩,c',a',b',p',z',⟨⟩⟩ ⟨e0,e1,e2,e3,e4,ha,hb⟩
  simp only at e0 e1 e2 e3 e4
  subst e0 e1 e2 e3 e4
  unfold c5L
  rw [if_pos hp,if_pos ha,if_pos hb]
  refine Wp.brn (fun h=>?_) (fun h=>?_)
  ·
   have hu:=(d4H u').1 h
   rw [if_pos hu]
   rfl
  ·
   have hu:u'.nat≠0:=fun h0=>by
    rw [(d4H u').2 h0] at h; cases h
   rw [if_neg hu]
   refine Wp.optF (f7R _ _ _ _) ?_
   refine Wp.brn (fun h=>?_) (fun h=>?_)
   ·
    rw [if_pos h]
    rfl
   ·
    rw [if_neg (by rw [h]; decide)]
    exact Wp.optF (f4A _ _) rfl
 ·
  intro j hj
  refine Wp.optF (c0Z a) ?_
  refine Wp.brn (fun h=>?_) (fun h=>?_)
  ·
   have ha:b0O a=false:=b4H h
   unfold c5L
   rw [if_pos hp,ha]
   rfl
  ·
   have ha:b0O a=true:=b4I h
   refine Wp.optF (c0Z b) ?_
   refine Wp.brn (fun h=>?_) (fun h=>?_)
   ·
    have hb:b0O b=false:=b4H h
    unfold c5L
    rw [if_pos hp,if_pos ha,hb]
    rfl
   ·
    have hb:b0O b=true:=b4I h
    exact hj _ ⟨rfl,rfl,rfl,rfl,rfl,ha,hb⟩
end Sym

/- The law of the gas price's bounds, of the plain functions. -/
namespace Sym
open Go
def f1M (t:U×U) (base:U):U×I .i64 :=
 if base.val≤t.1.val then (U.of (base.val+min t.2.val (t.1.val-base.val)),I.of .i64 0) else (U.of 0,I.of .i64 12)
end Sym

/- The law of the charge's total. -/
namespace Sym
open Go
theorem d0C {n:Nat} (h:n<U.top):c9B n=(U.of n,I.of .i64 0):=if_pos h
theorem e1A {n:Nat} (h:U.top≤n):c9B n=(U.of 0,I.of .i64 4):=if_neg (by omega)
theorem b0A {l:List Dg} {n:Nat} (h:IsB l n) (k:Nat) (hn:n<65536^k) (hk:k≤1000000):l.length≤1000000:=Nat.le_trans (h.len.2 hn) hk
theorem f8B:U.top=65536^16:=by decide
theorem c3N {l:List Dg} {a:U} (h:IsB l a.val):l.length≤1000000:=b0A h 16 (by rw [← f8B]; exact a.lt) (by decide)
end Sym

/- Products of 512 bits and shares of them. -/
namespace Sym
open Go
theorem g3E (n b:Nat) (hb:b≤10000):n*b / 10000≤n:=by
 have h1:n*b≤n*10000:=Nat.mul_le_mul_left _ hb
 exact Nat.div_le_of_le_mul (by rw [Nat.mul_comm 10000 n]; exact h1)
end Sym

/- Binary heaps in lists. -/
namespace Sym
open Go
structure SOrd {α:Type} (lt:α→α→Bool):Prop where
 asymm:∀ a b,lt a b=true→lt b a=false
 trans:∀ a b c,lt b a=false→lt c b=false→lt c a=false
section
variable {α:Type} {lt:α→α→Bool} (d:α)
end
end Sym

/- The queue of debts: each function. -/
namespace Sym
open Go
abbrev Item:Type:=c5U
abbrev Post:Type:=a0A
noncomputable abbrev dI:Item:=d1G
noncomputable abbrev dP:Post:=a0S
abbrev Post.addr (p:Post):I .u64:=p.1
abbrev Post.due (p:Post):U:=p.2.1
abbrev Post.since (p:Post):I .u64:=p.2.2.2.2.2.1
def c6D (a b:Item):Bool :=
 brn (I.neb (Post.since a.1) (Post.since b.1)) (I.ltb (Post.since a.1) (Post.since b.1))
  (brn (I.neb (Post.addr a.1) (Post.addr b.1)) (I.ltb (Post.addr a.1) (Post.addr b.1)) (I.ltb a.2.1 b.2.1))
theorem d6I (a b:Item):c6D a b=true↔(Post.since a.1).val<(Post.since b.1).val∨((Post.since a.1).val=(Post.since b.1).val∧((Post.addr a.1).val<(Post.addr b.1).val∨((Post.addr a.1).val=(Post.addr b.1).val∧a.2.1.val<b.2.1.val))):=by
 unfold c6D
 cases h:I.neb (Post.since a.1) (Post.since b.1) with
 | true =>
  have h:=iff_neb.1 h
  show I.ltb _ _=true↔_
  rw [iff_ltb]
  omega
 | false =>
  have h:=niff_neb.1 h
  show brn _ _ _=true↔_
  cases h2:I.neb (Post.addr a.1) (Post.addr b.1) with
  | true =>
   have h2:=iff_neb.1 h2
   show I.ltb _ _=true↔_
   rw [iff_ltb]
   omega
  | false =>
   have h2:=niff_neb.1 h2
   show I.ltb _ _=true↔_
   rw [iff_ltb]
   omega
theorem c1H (a b:Item):c6D a b=false↔¬ ((Post.since a.1).val<(Post.since b.1).val∨((Post.since a.1).val=(Post.since b.1).val∧((Post.addr a.1).val<(Post.addr b.1).val∨((Post.addr a.1).val=(Post.addr b.1).val∧a.2.1.val<b.2.1.val)))):=by
 rw [← d6I]
 simp
theorem lessO:SOrd c6D where
 asymm a b h:=by
  have h:=(d6I a b).1 h
  rw [c1H]
  omega
 trans a b c h1 h2:=by
  have h1:=(c1H _ _).1 h1
  have h2:=(c1H _ _).1 h2
  rw [c1H]
  omega
theorem c2H:I.of .i64 0=i6 0:=rfl
theorem b5U:I.of .i64 1=i6 1:=rfl
end Sym

/- The queue of debts: Len, Peek, Pop. -/
namespace Sym
open Go
end Sym

/- The queue of debts: New, Order and the reference's order. -/
namespace Sym
open Go
noncomputable def ow (p:Post):Bool:=a6O (Ty.eqb (.arr 4 (.int .u64)) p.2.1 Z_U)
noncomputable def d4N:Nat→List Post→List Item
 | _,[]=>[]
 | k,p::l=>(if ow p=true then [(p,(i6 k,()))] else [])++d4N (k+1) l
theorem f1G:∀ (l m:List Post) (k:Nat),d4N k (l++m)=d4N k l++d4N (k+l.length) m
 | [],m,k=>by simp [d4N]
 | p::l,m,k=>by
  simp only [List.cons_append,d4N,f1G l m (k+1),List.append_assoc,List.length_cons]
  rw [show k+1+l.length=k+(l.length+1) by omega]
theorem f9H (p:Post) (k:Nat):d4N k [p]=if ow p=true then [(p,(i6 k,()))] else []:=by simp [d4N]
theorem e3B:∀ (l:List Post) (k:Nat),(d4N k l).length≤l.length
 | [],k=>Nat.le_refl _
 | p::l,k=>by
  have:=e3B l (k+1)
  simp only [d4N,List.length_append,List.length_cons]
  split<;>simp<;>omega
theorem d4K:∀ (l:List Post) (k:Nat) (x:Item),x∈d4N k l→∃ i,i<l.length∧x=(rdL dP l i,(i6 (k+i),()))∧ow x.1=true
 | [],k,x,h=>by cases h
 | p::l,k,x,h=>by
  simp only [d4N,List.mem_append] at h
  rcases h with h | h
  ·
   split at h
   ·
    rename_i hp
    have h:=List.mem_singleton.1 h
    subst h
    exact ⟨0,by simp,rfl,hp⟩
   ·
    cases h
  ·
   obtain ⟨i,hi,e,ho⟩:=d4K l (k+1) x h
   exact ⟨i+1,by simpa using hi,by rw [e,show k+1+i=k+(i+1) by omega]; rfl,ho⟩
theorem f4U {a:List Post} {i:Nat} (h:i<a.length):d4N 0 (a.take (i+1))=d4N 0 (a.take i)++(if ow (rdL dP a i)=true then [(rdL dP a i,(i6 i,()))] else []):=by
 rw [List.take_succ_eq_append_getElem h,f1G,f9H,List.length_take,Nat.min_eq_left (by omega),Nat.zero_add,a3Y dP a i h]
theorem f7L {a:List Post} (ha:a.length≤1073741824) {x y:Item} (hx:x∈d4N 0 a) (hy:y∈d4N 0 a) (h1:c6D y x=false) (h2:c6D x y=false):x=y:=by
 obtain ⟨i,hi,e1,_⟩:=d4K _ _ _ hx
 obtain ⟨j,hj,e2,_⟩:=d4K _ _ _ hy
 have h1:=(c1H _ _).1 h1
 have h2:=(c1H _ _).1 h2
 have a1:x.2.1.val=i:=by rw [e1]; show (i6 (0+i)).val=_; rw [a0Q (by omega)]; omega
 have a2:y.2.1.val=j:=by rw [e2]; show (i6 (0+j)).val=_; rw [a0Q (by omega)]; omega
 have:i=j:=by omega
 subst this
 rw [e1,e2]
noncomputable def d7V (a:List Post):List Item:=(d4N 0 a).mergeSort fun x y=>!c6D y x
theorem c8J (a:List Post):(d7V a).Perm (d4N 0 a):=List.mergeSort_perm _ _
theorem f4N (a:List Post):(d7V a).Pairwise fun x y=>c6D y x=false:=by
 have:=List.pairwise_mergeSort (le:=fun x y=>!c6D y x) (fun x y z h1 h2=>by
  simp only [Bool.not_eq_true'] at *
  exact lessO.trans _ _ _ h1 h2) (fun x y=>by
  cases h:c6D y x with
  | false=>rfl
  | true=>rw [lessO.asymm _ _ h]; rfl) (d4N 0 a)
 exact this.imp (by simp)
theorem f2L {a:List Post} (ha:a.length≤1073741824) {r:List Item} (hp:r.Perm (d4N 0 a)) (ho:r.Pairwise fun x y=>c6D y x=false):r=d7V a :=
 List.Perm.eq_of_pairwise (le:=fun x y=>c6D y x=false) (fun x y hx hy h1 h2=>f7L ha (hp.mem_iff.1 hx) ((c8J a).mem_iff.1 hy) h1 h2) ho (f4N a) (hp.trans (c8J a).symm)
theorem e4T (a:List Post):(d7V a).length≤a.length:=by rw [(c8J a).length_eq]; exact e3B a 0
theorem h9B {p:Post}:Ty.eqb (.arr 4 (.int .u64)) p.2.1 Z_U=false→ow p=true:=fun h=>by unfold ow; rw [h]; rfl
theorem i0I {p:Post}:Ty.eqb (.arr 4 (.int .u64)) p.2.1 Z_U=true→ow p=false:=fun h=>by unfold ow; rw [h]; rfl
end Sym

/- The queue of debts: the reference, comparisons of lists. -/
namespace Sym
open Go
def gtP (y x:Post):Prop:=(Post.since x).val<(Post.since y).val∨((Post.since y).val=(Post.since x).val∧(Post.addr x).val<(Post.addr y).val)
theorem f2P {r:List Item} {x:Item} {k:Nat} (hk:k≤r.length) (ho:r.Pairwise fun a b=>c6D b a=false) (hat:∀ y∈r,y.2.1.val<x.2.1.val)
  (h1:∀ q,k≤q→q<r.length→gtP (rdL dI r q).1 x.1) (h2:k=0∨¬ gtP (rdL dI r (k-1)).1 x.1) :
  (r.take k++x::r.drop k).Pairwise fun a b=>c6D b a=false:=by
 rw [List.pairwise_append]
 have hd:∀ y∈r.drop k,c6D y x=false:=by
  intro y hy
  obtain ⟨q,hq,e⟩:=List.getElem_of_mem hy
  rw [List.getElem_drop] at e
  rw [List.length_drop] at hq
  have:=h1 (k+q) (by omega) (by omega)
  rw [a3Y dI r _ (by omega),e] at this
  refine lessO.asymm _ _ ((d6I _ _).2 ?_)
  rcases this with h | ⟨h,h'⟩
  ·
   exact .inl h
  ·
   exact .inr ⟨h.symm,.inl h'⟩
 have ht:∀ y∈r.take k,c6D x y=false:=by
  intro y hy
  obtain ⟨q,hq,e⟩:=List.getElem_of_mem hy
  rw [List.length_take] at hq
  rw [List.getElem_take] at e
  have h2:=h2.resolve_left (by omega)
  have hlast:c6D x (rdL dI r (k-1))=false:=by
   rw [c1H]
   have hm:=hat _ (c3L dI r (k-1) (by omega))
   unfold gtP at h2
   omega
  rcases Nat.lt_or_ge q (k-1) with hc | hc
  ·
   have:=List.pairwise_iff_getElem.1 ho q (k-1) (by omega) (by omega) hc
   rw [e,← a3Y dI r (k-1) (by omega)] at this
   exact lessO.trans _ _ _ this hlast
  ·
   have:q=k-1:=by omega
   subst this
   rw [← e,← a3Y dI r (k-1) (by omega)]
   exact hlast
 refine ⟨ho.take,List.pairwise_cons.2 ⟨hd,ho.drop⟩,fun a ha b hb=>?_⟩
 rcases List.mem_cons.1 hb with rfl | hb
 ·
  exact ht a ha
 ·
  exact lessO.trans _ _ _ (ht a ha) (hd b hb)
theorem h2U {n:Nat} (h:n<9223372036854775808):eqV (k:=.i64) (l:=.i64) (i6 n) (i6 n)=true:=by simp [eqV]
theorem f5S {a:List Post} (ha:a.length≤1073741824):b1S K0 ((a,()),())=some (((d7V a).map (·.1),()),()):=by
 refine Wp.out (T:=fun o=>o=some (((d7V a).map (·.1),()),())) ?_
 unfold b1S
 simp only [a8H,a5Y,c2H,b5U]
 refine Wp.iter (fun s=>∃ i r,s=((a,(i6 i,())),(r.map (·.1),()))∧i≤a.length∧r.Perm (d4N 0 (a.take i))∧r.Pairwise fun x y=>c6D y x=false) (fun s=>a.length-s.1.2.1.val.toNat) ?_ ⟨0,[],rfl,by omega,by simp [d4N],List.Pairwise.nil⟩ ?_
 ·
  rintro s ⟨i,r,rfl,hi,hp,ho⟩
  simp only [a2L (show i<9223372036854775808 by omega) (show a.length<9223372036854775808 by omega),a3J (show i<9223372036854775808 by omega),a2K (show i+1<9223372036854775808 by omega),List.length_map]
  have hlen:r.length≤i:=by
   rw [hp.length_eq]
   exact Nat.le_trans (e3B _ _) (by rw [List.length_take]; omega)
  refine Wp.brn (fun hc=>?_) (fun hc=>?_)
  ·
   have hc:=of_decide_eq_true hc
   have ht:=f4U hc
   have bi:inB (i6 i) a.length=true:=a3H (by omega) (by omega)
   have hm:a.length-(i6 (i+1)).val.toNat<a.length-(i6 i).val.toNat:=by rw [a0Q (by omega),a0Q (by omega)]; omega
   refine Wp.brnT bi ?_
   refine Wp.brn (fun hd=>?_) (fun hd=>?_)
   ·
    rw [if_neg (by rw [show ow (rdL dP a i)=false from i0I hd]; simp),List.append_nil] at ht
    exact Wp.again ⟨i+1,r,rfl,by omega,by rw [ht]; exact hp,ho⟩ hm
   ·
    rw [if_pos (show ow (rdL dP a i)=true from h9B hd)] at ht
    have hat:∀ y∈r,y.2.1.val<(i6 i).val:=by
     intro y hy
     obtain ⟨q,hq,e,_⟩:=d4K _ _ _ (hp.mem_iff.1 hy)
     rw [List.length_take] at hq
     rw [e]
     show (i6 (0+q)).val<_
     rw [a0Q (by omega),a0Q (by omega)]
     omega
    have hrm:∀ q,q<r.length→rdL dP (r.map (·.1)) q=(rdL dI r q).1:=fun q hq=>by
     rw [a3Y dP _ q (by simpa using hq),a3Y dI r q hq,List.getElem_map]
    refine Wp.jn (fun s=>∃ k,s=((a,(i6 i,(i6 k,()))),(r.map (·.1),()))∧k≤r.length∧(∀ q,k≤q→q<r.length→gtP (rdL dI r q).1 (rdL dP a i))∧(k=0∨¬ gtP (rdL dI r (k-1)).1 (rdL dP a i))) ?_ ?_
    ·
     rintro s ⟨k,rfl,hk,g1,g2⟩
     simp only [a3J (show k<9223372036854775808 by omega),a3J (show i<9223372036854775808 by omega),List.length_map,c7M]
     have bk:inB' (i6 k) r.length=true:=i6_inB' hk (by omega)
     have esub:a3T (r.map (·.1)) k (r.length-k)=(r.drop k).map (·.1):=by
      have:=c3O (r.map (·.1)) k
      rw [List.length_map] at this
      rw [this,List.map_drop]
     refine Wp.brnT bk (Wp.brnT (h2U (by omega)) (Wp.brnT bi (Wp.brnT bk ?_)))
     simp only [esub]
     refine Wp.brnT (b3P (by show ([rdL dP a i]++(r.drop k).map (·.1)).length≤_; simp; omega)) (Wp.brnT (b3P (by show ((r.map (·.1)).take k++([rdL dP a i]++(r.drop k).map (·.1))).length≤_; simp; omega)) (Wp.brnF rfl ?_))
     simp only [a2K (show i+1<9223372036854775808 by omega)]
     refine Wp.again ⟨i+1,r.take k++(rdL dP a i,(i6 i,()))::r.drop k,?_,by omega,?_,f2P hk ho hat g1 g2⟩ hm
     ·
      simp [a2C,List.map_take]
     ·
      rw [ht]
      refine (List.perm_middle).trans ?_
      rw [List.take_append_drop]
      exact (List.Perm.cons _ hp).trans (List.perm_append_comm (l₁:=[_]))
    ·
     intro j hj
     refine Wp.iter (fun s=>∃ k,s=((a,(i6 i,(i6 k,()))),(r.map (·.1),()))∧k≤r.length∧(∀ q,k≤q→q<r.length→gtP (rdL dI r q).1 (rdL dP a i))) (fun s=>s.1.2.2.1.val.toNat) ?_ ⟨r.length,rfl,by omega,fun q h1 h2=>by omega⟩ ?_
     ·
      rintro s ⟨k,rfl,hk,g1⟩
      simp only [a2L (show 0<9223372036854775808 by omega) (show k<9223372036854775808 by omega),a3J (show i<9223372036854775808 by omega),List.length_map]
      refine Wp.brn (fun hk0=>?_) (fun hk0=>?_)
      ·
       have hk0:=of_decide_eq_true hk0
       simp only [c2V (show k<9223372036854775808 by omega) (show 1≤k by omega),a3J (show k-1<9223372036854775808 by omega),hrm (k-1) (by omega)]
       have bk:inB (i6 (k-1)) r.length=true:=a3H (by omega) (by omega)
       have again:gtP (rdL dI r (k-1)).1 (rdL dP a i)→(∃ k',(((a,(i6 i,(i6 (k-1),()))),(r.map (·.1),())):(List Post×(I .i64×(I .i64×Unit)))×(List Post×Unit))=((a,(i6 i,(i6 k',()))),(r.map (·.1),()))∧k'≤r.length∧(∀ q,k'≤q→q<r.length→gtP (rdL dI r q).1 (rdL dP a i)))∧(i6 (k-1)).val.toNat<(i6 k).val.toNat:=by
        intro hg
        refine ⟨⟨k-1,rfl,by omega,fun q h1 h2=>?_⟩,by rw [a0Q (by omega),a0Q (by omega)]; omega⟩
        rcases (by omega:q=k-1∨k≤q) with rfl | h
        ·
         exact hg
        ·
         exact g1 q h h2
       have stop:¬ gtP (rdL dI r (k-1)).1 (rdL dP a i)→Wp _ (j ((a,(i6 i,(i6 k,()))),(r.map (·.1),()))):=fun hg=>hj _ ⟨k,rfl,hk,g1,.inr hg⟩
       refine Wp.brnT bk (Wp.brnT bi ?_)
       refine Wp.brn (fun h1=>?_) (fun h1=>?_)
       ·
        have h1:=iff_ltb.1 h1
        exact Wp.again (again (.inl h1)).1 (again (.inl h1)).2
       ·
        have h1:=niff_ltb.1 h1
        refine Wp.brnT bk (Wp.brnT bi ?_)
        refine Wp.brn (fun h2=>?_) (fun h2=>?_)
        ·
         have h2:=iff_eqb.1 h2
         refine Wp.brnT bk (Wp.brnT bi ?_)
         refine Wp.brn (fun h3=>?_) (fun h3=>?_)
         ·
          have h3:=iff_ltb.1 h3
          exact Wp.again (again (.inr ⟨h2,h3⟩)).1 (again (.inr ⟨h2,h3⟩)).2
         ·
          have h3:=niff_ltb.1 h3
          exact Wp.done (stop fun hg=>by
           rcases hg with hg | ⟨_,hg⟩
           ·
            exact absurd hg (by show ¬ _<_; exact Int.not_lt.2 h1)
           ·
            exact absurd hg (Int.not_lt.2 h3))
        ·
         have h2:=niff_eqb.1 h2
         exact Wp.done (stop fun hg=>by
          rcases hg with hg | ⟨hg,_⟩
          ·
           exact absurd hg (Int.not_lt.2 h1)
          ·
           exact h2 hg)
      ·
       have hk0:=of_decide_eq_false hk0
       exact Wp.done (hj _ ⟨k,rfl,hk,g1,.inl (by omega)⟩)
     ·
      rw [a6Z]
      show (i6 r.length).val.toNat<_
      rw [a0Q (by omega)]
      omega
  ·
   have hc:=of_decide_eq_false hc
   refine Wp.done ?_
   rw [List.take_of_length_le (by omega)] at hp
   rw [f2L ha hp ho]
   rfl
 ·
  rw [a6Z]
  show a.length-_<_
  omega
end Sym

/- The laws of the queue of debts. -/
namespace Sym
open Go
end Sym

/- The laws of the queue of debts: complete, empty, any order of the list. -/
namespace Sym
open Go
theorem f0H:∀ (l:List Post) (k:Nat),(d4N k l).map (·.1)=l.filter ow
 | [],k=>rfl
 | p::l,k=>by
  simp only [d4N,List.map_append,f0H l (k+1),List.filter_cons]
  split<;>simp
theorem c7H (a:List Post):((d7V a).map (·.1)).Perm (a.filter ow):=by
 rw [← f0H a 0]
 exact (c8J a).map _
end Sym

/- Tables of posters: which are valid, where one stands. -/
namespace Sym
open Go
theorem g0U:∃ k,K0=k+5:=⟨2^64-5,by rw [a6Z]⟩
abbrev Post.costs (p:Post):U:=p.2.2.1
abbrev Post.rewards (p:Post):U:=p.2.2.2.1
abbrev Post.paid (p:Post):U:=p.2.2.2.2.1
def b8D (p:Post):Prop:=(Post.addr p).val≠0∧(Post.due p).val+(Post.paid p).val=(Post.costs p).val+(Post.rewards p).val∧((Post.since p).val=0↔(Post.due p).val=0)
def TableOk (l:List Post):Prop:=l.length≤64∧∀ i,i<l.length→b8D (rdL dP l i)∧(0<i→(Post.addr (rdL dP l (i-1))).val<(Post.addr (rdL dP l i)).val)
open Classical in
noncomputable def c8Y (l:List Post):Bool:=decide (TableOk l)
open Classical in
theorem tabB_t {l:List Post}:c8Y l=true↔TableOk l:=by unfold c8Y; exact decide_eq_true_iff
open Classical in
theorem tabB_f {l:List Post}:c8Y l=false↔¬ TableOk l:=by unfold c8Y; exact decide_eq_false_iff_not
theorem g4A (a:U):Ty.eqb (.arr 4 (.int .u64)) a Z_U=decide (a.val=0):=by
 rw [e9Z]
 rw [show U.val Z_U=0 from rfl]
theorem d1V (a:U):a2M K0 ((a,()),())=some ((decide (a.val=0),()),()):=by
 show some _=_
 rw [show Ty.eqb (.arr 4 (.int .u64)) ((a,()),()).1.1 ((I.of .u64 0),((I.of .u64 0),((I.of .u64 0),((I.of .u64 0),()))))=decide (a.val=0) from g4A a]
 rfl
theorem g1F (a b:Bool):Ty.eqb .bool a b=true↔a=b:=g8C .bool rfl a b
theorem d7W (p:Post):∃ y,a7Y K0 ((p,()),())=some y∧∃ b:Bool,y=((b,()),())∧(b=true↔b8D p):=by
 obtain ⟨ad,due,costs,rewards,paid,since,⟨⟩⟩:=p
 refine Wp.out (T:=fun o=>∃ y,o=some y∧∃ b:Bool,y=((b,()),())∧(b=true↔b8D (ad,due,costs,rewards,paid,since,()))) ?_
 unfold a7Y
 have E:b8D (ad,due,costs,rewards,paid,since,())↔(ad.val≠0∧due.val+paid.val=costs.val+rewards.val∧(since.val=0↔due.val=0)):=Iff.rfl
 have from_:∀ a:U,∃ y,a0C K0 ((a,()),())=some y∧∃ r,y=((r,()),())∧IsB r a.val:=fun a=>by
  obtain ⟨r,h1,h2⟩:=a1I a
  exact ⟨_,h1,r,rfl,h2⟩
 refine Wp.call (from_ due) ?_
 rintro _ ⟨d,rfl,hd⟩
 refine Wp.call (from_ paid) ?_
 rintro _ ⟨q,rfl,hq⟩
 obtain ⟨r1,g1,k1⟩:=b3H hd hq (c3N hd) (c3N hq)
 refine Wp.optF g1 ?_
 refine Wp.call (from_ costs) ?_
 rintro _ ⟨c,rfl,hc⟩
 refine Wp.call (from_ rewards) ?_
 rintro _ ⟨w,rfl,hw⟩
 obtain ⟨r2,g2,k2⟩:=b3H hc hw (c3N hc) (c3N hw)
 refine Wp.optF g2 ?_
 have t1:=due.lt
 have t2:=paid.lt
 have t3:=costs.lt
 have t4:=rewards.lt
 have hp:U.top+U.top≤65536^17:=by decide
 refine Wp.brn (fun h=>?_) (fun h=>?_)
 ·
  have h:ad.val≠0:=by have:=iff_neb.1 h; exact this
  refine Wp.optF (c7T k1 k2 (b0A k1 17 (by omega) (by decide)) (b0A k2 17 (by omega) (by decide))) ?_
  refine Wp.brn (fun h2=>?_) (fun h2=>?_)
  ·
   have h2:due.val+paid.val=costs.val+rewards.val:=by
    have h2:=iff_eqb.1 h2
    revert h2
    show (c5W _ _).val=(0:Int)→_
    unfold c5W
    split
    ·
     intro h; exact absurd h (by decide)
    ·
     split
     ·
      intro h; exact absurd h (by decide)
     ·
      intro _; omega
   refine Wp.optF (d1V due) ?_
   refine ⟨_,rfl,_,rfl,?_⟩
   rw [E]
   refine (g1F _ _).trans ?_
   constructor
   ·
    intro hb
    have hb:I.eqb since (I.of .u64 0)=decide (due.val=0):=hb
    refine ⟨h,h2,?_⟩
    constructor
    ·
     intro h0
     have:I.eqb since (I.of .u64 0)=true:=iff_eqb.2 h0
     exact of_decide_eq_true (hb.symm.trans this)
    ·
     intro h0
     have:I.eqb since (I.of .u64 0)=true:=hb.trans (decide_eq_true h0)
     exact iff_eqb.1 this
   ·
    rintro ⟨_,_,h3⟩
    by_cases h0:due.val=0
    ·
     exact (iff_eqb.2 (h3.2 h0)).trans (decide_eq_true h0).symm
    ·
     exact (niff_eqb.2 (fun e=>h0 (h3.1 e))).trans (decide_eq_false h0).symm
  ·
   have h2:due.val+paid.val≠costs.val+rewards.val:=by
    intro e
    refine (niff_eqb.1 h2) ?_
    show (c5W _ _).val=(0:Int)
    unfold c5W
    rw [if_neg (by omega),if_neg (by omega)]
    rfl
   exact ⟨_,rfl,false,rfl,by rw [E]; simp [h2]⟩
 ·
  have h:ad.val=0:=niff_neb.1 h
  exact ⟨_,rfl,false,rfl,by rw [E]; simp [h]⟩
end Sym

/- Tables of posters: both programs' Valid and Find. -/
namespace Sym
open Go
def TabTo (l:List Post) (i:Nat):Prop:=∀ k,k<i→b8D (rdL dP l k)∧(0<k→(Post.addr (rdL dP l (k-1))).val<(Post.addr (rdL dP l k)).val)
theorem TabTo.succ {l:List Post} {i:Nat} (h:TabTo l i) (h1:b8D (rdL dP l i)) (h2:0<i→(Post.addr (rdL dP l (i-1))).val<(Post.addr (rdL dP l i)).val):TabTo l (i+1):=by
 intro k hk
 rcases (by omega:k<i∨k=i) with h3 | rfl
 ·
  exact h k h3
 ·
  exact ⟨h1,h2⟩
theorem f6Y {l:List Post} {i:Nat} (hi:i<l.length) (h:¬ (b8D (rdL dP l i)∧(0<i→(Post.addr (rdL dP l (i-1))).val<(Post.addr (rdL dP l i)).val))):c8Y l=false:=tabB_f.2 fun ht=>h (ht.2 i hi)
theorem c4M {l:List Post} (hl:l.length≤1073741824):a4I K0 ((l,()),())=some ((c8Y l,()),()):=by
 refine Wp.out (T:=fun o=>o=some ((c8Y l,()),())) ?_
 unfold a4I
 simp only [a8H,a5Y,c2H,b5U]
 refine Wp.brn (fun hc=>?_) (fun hc=>?_)
 ·
  have hc:=iff_ltb.1 hc
  rw [a0Q (by omega),show (I.of .i64 64).val=64 from rfl] at hc
  have:c8Y l=false:=tabB_f.2 fun ht=>by have:=ht.1; omega
  rw [this]
  rfl
 ·
  have hc:=niff_ltb.1 hc
  rw [a0Q (by omega),show (I.of .i64 64).val=64 from rfl] at hc
  have h64:l.length≤64:=by omega
  refine Wp.iter (fun s=>∃ i,s=((l,(i6 i,())),())∧i≤l.length∧TabTo l i) (fun s=>l.length-s.1.2.1.val.toNat) ?_ ⟨0,rfl,by omega,fun k hk=>by omega⟩ ?_
  ·
   rintro s ⟨i,rfl,hi,ht⟩
   simp only [a2L (show i<9223372036854775808 by omega) (show l.length<9223372036854775808 by omega),a2L (show 0<9223372036854775808 by omega) (show i<9223372036854775808 by omega),a3J (show i<9223372036854775808 by omega),a2K (show i+1<9223372036854775808 by omega)]
   refine Wp.brn (fun hc=>?_) (fun hc=>?_)
   ·
    have hc:=of_decide_eq_true hc
    have hm:l.length-(i6 (i+1)).val.toNat<l.length-(i6 i).val.toNat:=by rw [a0Q (by omega),a0Q (by omega)]; omega
    have bi:inB (i6 i) l.length=true:=a3H (by omega) (by omega)
    refine Wp.brnT bi ?_
    refine Wp.call (d7W _) ?_
    rintro _ ⟨b,rfl,hb⟩
    refine Wp.brn (fun h=>?_) (fun h=>?_)
    ·
     have hbf:b=false:=by cases b with | false=>rfl | true=>exact absurd h (by decide)
     refine Wp.done ?_
     rw [f6Y hc fun h2=>by have:=hb.2 h2.1; rw [hbf] at this; cases this]
     rfl
    ·
     have hbt:b=true:=by cases b with | true=>rfl | false=>exact absurd h (by decide)
     have hE:=hb.1 hbt
     refine Wp.brn (fun h0=>?_) (fun h0=>?_)
     ·
      have h0:=of_decide_eq_true h0
      simp only [c2V (show i<9223372036854775808 by omega) (show 1≤i by omega),a3J (show i-1<9223372036854775808 by omega)]
      refine Wp.brnT bi (Wp.brnT (a3H (by omega) (by omega)) ?_)
      refine Wp.brn (fun hl=>?_) (fun hl=>?_)
      ·
       have hl:=iff_leb.1 hl
       refine Wp.done ?_
       rw [f6Y hc fun h2=>by have:=h2.2 h0; exact absurd this (Int.not_lt.2 hl)]
       rfl
      ·
       have hl:=niff_leb.1 hl
       exact Wp.again ⟨i+1,rfl,by omega,ht.succ hE fun _=>hl⟩ hm
     ·
      have h0:=of_decide_eq_false h0
      exact Wp.again ⟨i+1,rfl,by omega,ht.succ hE fun h=>by omega⟩ hm
   ·
    have hc:=of_decide_eq_false hc
    refine Wp.done ?_
    rw [tabB_t.2 ⟨h64,fun k hk=>ht k (by omega)⟩]
    rfl
  ·
   rw [a6Z]
   show l.length-_<_
   omega
def atN (l:List Post) (a:I .u64):Nat:=l.findIdx fun p=>I.eqb (Post.addr p) a
def atI (l:List Post) (a:I .u64):I .i64:=if atN l a<l.length then i6 (atN l a) else I.of .i64 (-1)
theorem g4D {l:List Post} {a:I .u64} {i:Nat} (hi:i<l.length) (h1:I.eqb (Post.addr (rdL dP l i)) a=true) (h2:∀ k,k<i→I.eqb (Post.addr (rdL dP l k)) a=false):atN l a=i:=by
 unfold atN
 rw [List.findIdx_eq hi]
 refine ⟨by rw [← a3Y dP l i hi]; exact h1,fun k hk=>?_⟩
 rw [← a3Y dP l k (by omega)]
 exact h2 k hk
theorem g1G {l:List Post} {a:I .u64} (h2:∀ k,k<l.length→I.eqb (Post.addr (rdL dP l k)) a=false):atN l a=l.length:=by
 unfold atN
 rw [List.findIdx_eq_length]
 intro x hx
 obtain ⟨k,hk,rfl⟩:=c7O dP hx
 exact h2 k hk
theorem d3Y {l:List Post} (a:I .u64) (hl:l.length≤1073741824):a7E K0 ((l,(a,())),())=some ((atI l a,()),()):=by
 refine Wp.out (T:=fun o=>o=some ((atI l a,()),())) ?_
 unfold a7E
 simp only [a8H,a5Y,c2H,b5U]
 refine Wp.iter (fun s=>∃ i,s=((l,(a,(i6 i,()))),())∧i≤l.length∧∀ k,k<i→I.eqb (Post.addr (rdL dP l k)) a=false) (fun s=>l.length-s.1.2.2.1.val.toNat) ?_ ⟨0,rfl,by omega,fun k hk=>by omega⟩ ?_
 ·
  rintro s ⟨i,rfl,hi,ht⟩
  simp only [a2L (show i<9223372036854775808 by omega) (show l.length<9223372036854775808 by omega),a3J (show i<9223372036854775808 by omega),a2K (show i+1<9223372036854775808 by omega)]
  refine Wp.brn (fun hc=>?_) (fun hc=>?_)
  ·
   have hc:=of_decide_eq_true hc
   refine Wp.brnT (a3H (by omega) (by omega)) ?_
   refine Wp.brn (fun h=>?_) (fun h=>?_)
   ·
    refine Wp.done ?_
    have e:=g4D hc h ht
    unfold atI
    rw [e,if_pos hc]
    rfl
   ·
    refine Wp.again ⟨i+1,rfl,by omega,fun k hk=>?_⟩ (by show l.length-(i6 (i+1)).val.toNat<l.length-(i6 i).val.toNat; rw [a0Q (by omega),a0Q (by omega)]; omega)
    rcases (by omega:k<i∨k=i) with h3 | rfl
    ·
     exact ht k h3
    ·
     exact h
  ·
   have hc:=of_decide_eq_false hc
   refine Wp.done ?_
   have e:=g1G fun k hk=>ht k (by omega)
   unfold atI
   rw [if_neg (by omega)]
   rfl
 ·
  rw [a6Z]
  show l.length-_<_
  omega
end Sym

/- Tables of posters: Settle, sums. -/
namespace Sym
open Go
theorem b3F (a:U):∃ y,a0C K0 ((a,()),())=some y∧∃ r,y=((r,()),())∧IsB r a.val:=by
 obtain ⟨r,h1,h2⟩:=a1I a
 exact ⟨_,h1,r,rfl,h2⟩
theorem d2U (a b:U):a7Z K0 ((a,(b,())),())=some (((c9B (a.val+b.val)).1,((c9B (a.val+b.val)).2,())),()):=by
 refine Wp.out (T:=fun o=>o=_) ?_
 unfold a7Z
 refine Wp.call (b3F a) ?_
 rintro _ ⟨x,rfl,hx⟩
 refine Wp.call (b3F b) ?_
 rintro _ ⟨y,rfl,hy⟩
 obtain ⟨r,g,k⟩:=b3H hx hy (c3N hx) (c3N hy)
 refine Wp.optF g ?_
 have t1:=a.lt
 have t2:=b.lt
 have hp:U.top+U.top≤65536^17:=by decide
 refine Wp.optF (Checked_ok' k (b0A k 17 (by omega) (by decide))) ?_
 rfl
theorem c4G (a b:U):a5J K0 ((a,(b,())),())=some (((f4J a b).1,((f4J a b).2,())),()):=by
 refine Wp.out (T:=fun o=>o=_) ?_
 unfold a5J
 refine Wp.call (b3F a) ?_
 rintro _ ⟨x,rfl,hx⟩
 refine Wp.call (b3F b) ?_
 rintro _ ⟨y,rfl,hy⟩
 refine Wp.optF (c7T hx hy (c3N hx) (c3N hy)) ?_
 have hc:I.ltb (c5W a.val b.val) (I.of .i64 0)=decide (a.val<b.val):=by
  unfold c5W
  by_cases h:a.val<b.val
  ·
   rw [if_pos h,decide_eq_true h]; rfl
  ·
   rw [if_neg h,decide_eq_false h]
   split<;>rfl
 refine Wp.brn (fun h=>?_) (fun h=>?_)
 ·
  have h:a.val<b.val:=of_decide_eq_true (hc.symm.trans h)
  unfold f4J
  rw [if_neg (by omega)]
  rfl
 ·
  have h:¬ a.val<b.val:=of_decide_eq_false (hc.symm.trans h)
  obtain ⟨r,g,k⟩:=d0K hx hy (by omega) (c3N hx)
  refine Wp.optF g ?_
  refine Wp.optF (a3C k (by have:=a.lt; omega)) ?_
  unfold f4J
  rw [if_pos (by omega)]
  rfl
noncomputable def settled (p:Post) (n:U):Post :=
 (p.addr,(U.of (p.due.val-n.val),(p.costs,(p.rewards,(U.of (p.paid.val+n.val),((if p.due.val-n.val=0 then I.of .u64 0 else p.since),()))))))
noncomputable def b7W (l:List Post) (a:I .u64) (n:U):List Post×I .i64 :=
 if c8Y l=true then
  if atN l a<l.length then
   if n.val≤(Post.due (rdL dP l (atN l a))).val then
    if (Post.paid (rdL dP l (atN l a))).val+n.val<U.top then (setAt l (atN l a) (settled (rdL dP l (atN l a)) n),I.of .i64 0)
    else ([],I.of .i64 4)
   else ([],I.of .i64 10)
  else ([],I.of .i64 8)
 else ([],I.of .i64 2)
theorem e1L {l:List Post} {a:I .u64} (hl:l.length≤1073741824):I.ltb (atI l a) (I.of .i64 0)=decide (¬ atN l a<l.length):=by
 unfold atI
 by_cases h:atN l a<l.length
 ·
  rw [if_pos h,decide_eq_false (by simpa using h)]
  exact niff_ltb.2 (by rw [a0Q (by omega)]; show (0:Int)≤_; omega)
 ·
  rw [if_neg h,decide_eq_true h]
  rfl
theorem d5Q {X:Type} (l:List X) (i:Nat) (v w:X):setAt (setAt l i v) i w=setAt l i w:=by simp [a7K]
theorem f1P (l:List Post) (a:I .u64) (n:U) (hl:l.length≤1073741824):b1I K0 ((l,(a,(n,()))),())=some (((b7W l a n).1,((b7W l a n).2,())),()):=by
 refine Wp.out (T:=fun o=>o=_) ?_
 unfold b1I
 refine Wp.optF (c4M hl) ?_
 unfold b7W
 refine Wp.brn (fun h=>?_) (fun h=>?_)
 ·
  have h:c8Y l=false:=by have:a6O (c8Y l)=true:=h; revert this; cases c8Y l<;>simp [a6O]
  rw [if_neg (by rw [h]; simp)]
  rfl
 ·
  have h:c8Y l=true:=by have:a6O (c8Y l)=false:=h; revert this; cases c8Y l<;>simp [a6O]
  rw [if_pos h]
  refine Wp.optF (d3Y a hl) ?_
  refine Wp.brn (fun h=>?_) (fun h=>?_)
  ·
   have h:=of_decide_eq_true ((e1L hl).symm.trans h)
   rw [if_neg h]
   rfl
  ·
   have h:=of_decide_eq_false ((e1L hl).symm.trans h)
   have h:atN l a<l.length:=by simpa using h
   rw [if_pos h]
   have e:atI l a=i6 (atN l a):=if_pos h
   have en:a2C ([]:List Post) l=l:=rfl
   simp only [e,a3J (show atN l a<9223372036854775808 by omega),pw,d5Q,c4X,en]
   have bi:inB (i6 (atN l a)) l.length=true:=a3H h (by omega)
   refine Wp.brnT (b3P hl) (Wp.brnT bi ?_)
   refine Wp.optF (c4G _ _) ?_
   simp only [true_and,h,if_true]
   generalize rdL dP l (atN l a)=p
   by_cases hd:n.val≤(Post.due p).val
   ·
    rw [if_pos hd]
    have es:f4J (Post.due p) n=(U.of ((Post.due p).val-n.val),I.of .i64 0):=if_pos hd
    rw [es]
    refine Wp.brnF rfl ?_
    refine Wp.optF (d2U _ _) ?_
    by_cases hp:(Post.paid p).val+n.val<U.top
    ·
     rw [if_pos hp]
     rw [d0C hp]
     refine Wp.brnF rfl ?_
     refine Wp.optF (d1V _) ?_
     have hv:(U.of ((Post.due p).val-n.val)).val=(Post.due p).val-n.val:=U.val_of (by have:=U.lt (Post.due p); omega)
     refine Wp.brn (fun hz=>?_) (fun hz=>?_)
     ·
      have hz:=of_decide_eq_true hz
      have hz:(Post.due p).val-n.val=0:=hv.symm.trans hz
      unfold settled
      rw [if_pos hz]
      rfl
     ·
      have hz:=of_decide_eq_false hz
      have hz:¬ (Post.due p).val-n.val=0:=fun e=>hz (hv.trans e)
      unfold settled
      rw [if_neg hz]
      rfl
    ·
     rw [if_neg hp]
     have e4:c9B ((Post.paid p).val+n.val)=(U.of 0,I.of .i64 4):=e1A (Nat.le_of_not_lt hp)
     rw [show c9B (U.val p.2.2.2.2.1+n.val)=(U.of 0,I.of .i64 4) from e4]
     exact Wp.brnT rfl rfl
   ·
    rw [if_neg hd]
    have es:f4J (Post.due p) n=(U.of 0,I.of .i64 4):=if_neg hd
    rw [es]
    exact Wp.brnT rfl rfl
end Sym

/- Payments: sums, both programs' plans. -/
namespace Sym
open Go
abbrev Pay:Type:=a0E
noncomputable abbrev dY:Pay:=a3G
def b3C (l:List Nat):Nat:=l.foldr (·+·) 0
theorem e9K (l m:List Nat):b3C (l++m)=b3C l+b3C m:=by
 induction l with
 | nil=>simp [b3C]
 | cons x l ih=>simp only [b3C,List.cons_append,List.foldr_cons] at *; omega
theorem e3T {X:Type} (d:X) (f:X→Nat) {l:List X} {i:Nat} (h:i<l.length):b3C ((l.take (i+1)).map f)=b3C ((l.take i).map f)+f (rdL d l i):=by
 rw [List.take_succ_eq_append_getElem h,List.map_append,e9K,← a3Y d l i h]
 simp [b3C]
theorem g7Y {X:Type} (f:X→Nat) (l:List X) (i:Nat):b3C ((l.take i).map f)≤b3C (l.map f):=by
 have:b3C (l.map f)=b3C ((l.take i).map f)+b3C ((l.drop i).map f):=by
  rw [← e9K,← List.map_append,List.take_append_drop]
 omega
theorem d2F {X:Type} (f:X→Nat) (B:Nat) (hB:∀ x,f x<B):∀ l:List X,b3C (l.map f)≤l.length*B
 | []=>by simp [b3C]
 | x::l=>by
  have:=d2F f B hB l
  have:=hB x
  simp only [b3C,List.map_cons,List.foldr_cons,List.length_cons,Nat.succ_mul] at *
  omega
def amt (q:Pay):Nat:=U.val q.2.1
theorem h2I (q:Pay):amt q<U.top:=U.lt _
theorem f6I {l:List Pay} (hl:l.length≤1073741824):b1T K0 ((l,()),())=some (((c9B (b3C (l.map amt))).1,((c9B (b3C (l.map amt))).2,())),()):=by
 refine Wp.out (T:=fun o=>o=_) ?_
 unfold b1T
 simp only [a8H,a5Y,c2H,b5U]
 have hb:∀ i,b3C ((l.take i).map amt)<65536^19:=fun i=>by
  have h1:=g7Y amt l i
  have h2:=d2F amt U.top h2I l
  have h3:l.length*U.top≤1073741824*U.top:=Nat.mul_le_mul_right _ hl
  have h4:1073741824*U.top<65536^19:=by decide
  omega
 refine Wp.iter (fun s=>∃ i r,s=((l,(r,(i6 i,()))),(Z_U,()))∧i≤l.length∧IsB r (b3C ((l.take i).map amt))) (fun s=>l.length-s.1.2.2.1.val.toNat) ?_ ⟨0,[],rfl,by omega,d6T⟩ ?_
 ·
  rintro s ⟨i,r,rfl,hi,hr⟩
  simp only [a2L (show i<9223372036854775808 by omega) (show l.length<9223372036854775808 by omega),a3J (show i<9223372036854775808 by omega),a2K (show i+1<9223372036854775808 by omega)]
  refine Wp.brn (fun hc=>?_) (fun hc=>?_)
  ·
   have hc:=of_decide_eq_true hc
   refine Wp.brnT (a3H (by omega) (by omega)) ?_
   refine Wp.call (b3F _) ?_
   rintro _ ⟨x,rfl,hx⟩
   obtain ⟨z,g,k⟩:=b3H hr hx (b0A hr 19 (hb i) (by decide)) (c3N hx)
   refine Wp.optF g ?_
   refine Wp.again ⟨i+1,z,rfl,by omega,?_⟩ (by show l.length-(i6 (i+1)).val.toNat<l.length-(i6 i).val.toNat; rw [a0Q (by omega),a0Q (by omega)]; omega)
   rw [e3T dY amt hc]
   exact k
  ·
   have hc:=of_decide_eq_false hc
   have hbl:=hb l.length
   rw [List.take_of_length_le (by omega)] at hr hbl
   refine Wp.done (Wp.optF (Checked_ok' hr (b0A hr 19 hbl (by decide))) ?_)
   rfl
 ·
  rw [a6Z]
  show l.length-_<_
  omega
def c0J (p:Post):Nat:=U.val p.due
noncomputable def b3T:List Post→Nat→List Pay
 | [],_=>[]
 | p::r,n=>if n=0 then [] else (p.addr,(U.of (min (c0J p) n),()))::b3T r (n-min (c0J p) n)
theorem d2O (l:List Post):b3T l 0=[]:=by cases l<;>simp [b3T]
theorem e4X:∀ (l:List Post) (n:Nat),(b3T l n).length≤l.length
 | [],n=>Nat.le_refl _
 | p::r,n=>by
  have:=e4X r (n-min (c0J p) n)
  simp only [b3T]
  split<;>simp<;>omega
noncomputable def g3D (l:List Post) (pool:U):List Pay×I .i64 :=
 if c8Y l=true then (b3T ((d7V l).map (·.1)) pool.val,I.of .i64 0) else ([],I.of .i64 2)
theorem i0W {a:U}:a6O (Ty.eqb (.arr 4 (.int .u64)) a Z_U)=decide (a.val≠0):=by
 rw [g4A]
 by_cases h:a.val=0<;>simp [h,a6O]
theorem e8M {a b:List Dg} {m n:Nat} (ha:IsB a m) (hb:IsB b n) (hal:a.length≤1000000) (hbl:b.length≤1000000):∃ y,a4N K0 ((a,(b,())),())=some y∧∃ r,y=((r,()),())∧IsB r (min m n):=by
 refine Wp.out (T:=fun o=>∃ y,o=some y∧∃ r,y=((r,()),())∧IsB r (min m n)) ?_
 unfold a4N
 refine Wp.optF (c7T ha hb hal hbl) ?_
 have hc:I.ltb (I.of .i64 0) (c5W m n)=decide (n<m):=by
  unfold c5W
  by_cases h:m<n
  ·
   rw [if_pos h,decide_eq_false (by omega)]; rfl
  ·
   rw [if_neg h]
   by_cases h2:n<m
   ·
    rw [if_pos h2,decide_eq_true h2]; rfl
   ·
    rw [if_neg h2,decide_eq_false h2]; rfl
 refine Wp.brn (fun h=>?_) (fun h=>?_)
 ·
  have h:=of_decide_eq_true (hc.symm.trans h)
  exact ⟨_,rfl,b,rfl,by rw [Nat.min_eq_right (by omega)]; exact hb⟩
 ·
  have h:=of_decide_eq_false (hc.symm.trans h)
  exact ⟨_,rfl,a,rfl,by rw [Nat.min_eq_left (by omega)]; exact ha⟩
theorem g0T (l:List Post) (pool:U) (hl:l.length≤1073741824):b4A K0 ((l,(pool,())),())=some (((g3D l pool).1,((g3D l pool).2,())),()):=by
 refine Wp.out (T:=fun o=>o=_) ?_
 unfold b4A g3D
 refine Wp.optF (c4M hl) ?_
 refine Wp.brn (fun h=>?_) (fun h=>?_)
 ·
  have h:c8Y l=false:=by have:a6O (c8Y l)=true:=h; revert this; cases c8Y l<;>simp [a6O]
  rw [if_neg (by rw [h]; simp)]
  rfl
 ·
  have h:c8Y l=true:=by have:a6O (c8Y l)=false:=h; revert this; cases c8Y l<;>simp [a6O]
  rw [if_pos h]
  refine Wp.optF (f5S hl) ?_
  have hs:=e4T l
  obtain ⟨o,ho⟩:∃ o,o=(d7V l).map (·.1):=⟨_,rfl⟩
  have hol:o.length≤1073741824:=by rw [ho,List.length_map]; omega
  rw [← ho]
  refine Wp.call (b3F pool) ?_
  rintro _ ⟨left0,rfl,hleft0⟩
  simp only [a8H,a5Y,c2H,b5U]
  refine Wp.iter (fun s=>∃ i left n out,s=((o,(left,(i6 i,()))),(out,()))∧i≤o.length∧IsB left n∧n<U.top∧out++b3T (o.drop i) n=b3T o pool.val∧out.length≤i) (fun s=>o.length-s.1.2.2.1.val.toNat) ?_ ⟨0,left0,pool.val,[],rfl,by omega,hleft0,pool.lt,rfl,by simp⟩ ?_
  ·
   rintro s ⟨i,left,n,out,rfl,hi,hleft,hn,hout,houtl⟩
   have hll:left.length≤1000000:=b0A hleft 16 (by rw [← f8B]; exact hn) (by decide)
   simp only [a2L (show i<9223372036854775808 by omega) (show o.length<9223372036854775808 by omega),a2L (show 0<9223372036854775808 by omega) (show left.length<9223372036854775808 by omega)]
   refine Wp.jn (fun s=>∃ z b,i<o.length∧n≠0∧s=((o,(left,(i6 i,(left,(z,(b,())))))),(out,()))) ?_ ?_
   ·
    rintro s ⟨z,b,hc,hn0,rfl⟩
    simp only [a3J (show i<9223372036854775808 by omega),a2K (show i+1<9223372036854775808 by omega)]
    have bi:inB (i6 i) o.length=true:=a3H (by omega) (by omega)
    refine Wp.brnT bi ?_
    refine Wp.call (b3F _) ?_
    rintro _ ⟨du,rfl,hdu⟩
    refine Wp.call (e8M hleft hdu hll (c3N hdu)) ?_
    rintro _ ⟨mn,rfl,hmn⟩
    have hmin:min n (U.val (Post.due (rdL dP o i)))≤n:=Nat.min_le_left _ _
    refine Wp.brnT bi ?_
    refine Wp.optF (a3C hmn (by show min n _<_; omega)) ?_
    refine Wp.brnT (b3P (by show (out++[_]).length≤_; simp; omega)) ?_
    obtain ⟨z',g,k⟩:=d0K hleft hmn hmin hll
    refine Wp.optF g ?_
    refine Wp.again ⟨i+1,z',n-min n (c0J (rdL dP o i)),_,rfl,by omega,k,by omega,?_,by show (out++[_]).length≤_; simp; omega⟩ (by show o.length-(i6 (i+1)).val.toNat<o.length-(i6 i).val.toNat; rw [a0Q (by omega),a0Q (by omega)]; omega)
    rw [← hout,List.drop_eq_getElem_cons hc,← a3Y dP o i hc]
    simp only [b3T,if_neg hn0,g7E,List.append_assoc,List.singleton_append]
    rw [Nat.min_comm (c0J (rdL dP o i)) n]
    rfl
   ·
    intro j hj
    refine Wp.brn (fun hc=>?_) (fun hc=>?_)
    ·
     have hc:=of_decide_eq_true hc
     refine Wp.brn (fun hz=>?_) (fun hz=>?_)
     ·
      have hz:=of_decide_eq_true hz
      refine hj _ ⟨_,_,hc,?_,rfl⟩
      intro e
      subst e
      have:=(hleft.len (k:=0)).2 (by decide)
      omega
     ·
      have hz:=of_decide_eq_false hz
      have:n=0:=by
       have:=(hleft.len (k:=0)).1 (by omega)
       simpa using this
      subst this
      rw [d2O,List.append_nil] at hout
      refine Wp.done ?_
      rw [← hout]
      rfl
    ·
     have hc:=of_decide_eq_false hc
     rw [List.drop_eq_nil_iff.2 (by omega)] at hout
     refine Wp.done ?_
     rw [← hout]
     simp [b3T]
     rfl
  ·
   rw [a6Z]
   show o.length-_<_
   omega
end Sym

/- Sums that stop at the top; numbers by shape. -/
namespace Sym
open Go
theorem d0Q (x n:I .i64) (h:0<n.val):∃ y:I .i64,a4O K0 ((x,n,()),())=some ((y,()),())∧0≤y.val∧y.val<n.val:=by
 have hn:=b6K n
 have e:(I.conv .u64 n).val=n.val:=b8W ⟨by omega,by omega⟩
 have hx:=a6K (I.conv .u64 x)
 have er:(I.rem (I.conv .u64 x) (I.conv .u64 n)).val=(I.conv .u64 x).val%n.val:=by rw [f6X (by omega),e]
 have h3:=Int.emod_nonneg (I.conv .u64 x).val (b:=n.val) (by omega)
 have h4:=Int.emod_lt_of_pos (I.conv .u64 x).val (b:=n.val) (by omega)
 have ec:(I.conv .i64 (I.rem (I.conv .u64 x) (I.conv .u64 n))).val=(I.conv .u64 x).val%n.val:=by
  show (I.of .i64 _).val=_
  rw [er]
  exact b6T ⟨by omega,by omega⟩
 refine ⟨I.conv .i64 (I.rem (I.conv .u64 x) (I.conv .u64 n)),?_,by omega,by omega⟩
 refine Wp.out (T:=fun o=>o=_) ?_
 unfold a4O
 refine Wp.brnT (iff_nz.2 ?_) rfl
 show (I.conv .u64 n).val≠0
 omega
end Sym

/- Tables of posters: what is generated is well formed. -/
namespace Sym
open Go
theorem TableOk.lt {l:List Post} (h:TableOk l):∀ j,j<l.length→∀ i,i<j→(Post.addr (rdL dP l i)).val<(Post.addr (rdL dP l j)).val:=by
 intro j
 induction j with
 | zero=>intro _ i hi; omega
 | succ j ih =>
  intro hj i hi
  have h1:=(h.2 (j+1) hj).2 (by omega)
  rw [Nat.add_sub_cancel] at h1
  rcases (by omega:i<j∨i=j) with h2 | rfl
  ·
   have:=ih (by omega) i h2
   omega
  ·
   exact h1
theorem table_iff {l:List Post}:TableOk l↔l.length≤64∧(∀ p∈l,b8D p)∧l.Pairwise fun p q=>(Post.addr p).val<(Post.addr q).val:=by
 constructor
 ·
  intro h
  refine ⟨h.1,fun p hp=>?_,List.pairwise_iff_getElem.2 fun i j hi hj hij=>?_⟩
  ·
   obtain ⟨k,hk,rfl⟩:=c7O dP hp
   exact (h.2 k hk).1
  ·
   rw [← a3Y dP l i hi,← a3Y dP l j hj]
   exact h.lt j hj i hij
 ·
  rintro ⟨h1,h2,h3⟩
  refine ⟨h1,fun i hi=>⟨h2 _ (c3L dP l i hi),fun h0=>?_⟩⟩
  have:=List.pairwise_iff_getElem.1 h3 (i-1) i (by omega) hi (by omega)
  rw [a3Y dP l i hi,a3Y dP l (i-1) (by omega)]
  exact this
theorem g3X {l:List Post} (h:TableOk l) {k:Nat} (hk:k<l.length) {v:Post} (hv:b8D v) (ha:Post.addr v=Post.addr (rdL dP l k)):TableOk (setAt l k v):=by
 have hlen:(setAt l k v).length=l.length:=by rw [a7K,List.length_set]
 have haddr:∀ i,Post.addr (rdL dP (setAt l k v) i)=Post.addr (rdL dP l i):=by
  intro i
  rw [c4X]
  split
  ·
   rename_i e
   rw [ha,e.1]
  ·
   rfl
 refine ⟨by rw [hlen]; exact h.1,fun i hi=>?_⟩
 rw [hlen] at hi
 rw [haddr,haddr]
 refine ⟨?_,(h.2 i hi).2⟩
 rw [c4X]
 split
 ·
  exact hv
 ·
  exact (h.2 i hi).1
theorem f1T {p:Post} {n:U} (h:b8D p) (h1:n.val≤(Post.due p).val) (h2:(Post.paid p).val+n.val<U.top):b8D (settled p n):=by
 obtain ⟨ha,hb,hc⟩:=h
 have hd:=U.lt (Post.due p)
 refine ⟨ha,?_,?_⟩
 ·
  show (U.of ((Post.due p).val-n.val)).val+(U.of ((Post.paid p).val+n.val)).val=_
  rw [U.val_of (by omega),U.val_of h2]
  show _=(Post.costs p).val+(Post.rewards p).val
  omega
 ·
  show (if (Post.due p).val-n.val=0 then I.of .u64 0 else Post.since p).val=0↔(U.of ((Post.due p).val-n.val)).val=0
  rw [U.val_of (by omega)]
  split
  ·
   rename_i e
   rw [e]
   exact ⟨fun _=>rfl,fun _=>rfl⟩
  ·
   rename_i e
   rw [hc]
   omega
theorem f7D {l:List Post} (h:TableOk l):a6O (c8Y l)=false:=by rw [tabB_t.2 h]; rfl
theorem f9P {l:List Post} {a:I .u64} (h:¬ atN l a<l.length):∀ k,k<l.length→(Post.addr (rdL dP l k)).val≠a.val:=by
 intro k hk e
 have h1:atN l a≤l.length:=List.findIdx_le_length
 have h2:atN l a=l.length:=by omega
 unfold atN at h2
 rw [List.findIdx_eq_length] at h2
 have:=h2 _ (c3L dP l k hk)
 exact absurd (iff_eqb.2 e) (by rw [this]; simp)
end Sym

/- Tables of posters: what is generated is well formed: Accrue, the calls. -/
namespace Sym
open Go
theorem f3S {p:Post} (h:b8D p) (c w:U) (s:I .u64) (hs:s.val≠0) (h1:(Post.due p).val+(c.val+w.val)<U.top) (h2:(Post.costs p).val+c.val<U.top) (h3:(Post.rewards p).val+w.val<U.top) (s':I .u64)
  (hs':(s'=s∧(Post.due p).val=0∧0<(Post.due p).val+(c.val+w.val))∨(s'=Post.since p∧¬ ((Post.due p).val=0∧0<(Post.due p).val+(c.val+w.val)))) :
  b8D (p.1,(U.of ((Post.due p).val+(c.val+w.val)),(U.of ((Post.costs p).val+c.val),(U.of ((Post.rewards p).val+w.val),(p.2.2.2.2.1,(s',())))))):=by
 obtain ⟨ha,hb,hc⟩:=h
 refine ⟨ha,?_,?_⟩
 ·
  show (U.of _).val+(Post.paid p).val=(U.of _).val+(U.of _).val
  rw [U.val_of h1,U.val_of h2,U.val_of h3]
  omega
 ·
  show s'.val=0↔(U.of _).val=0
  rw [U.val_of h1]
  rcases hs' with ⟨rfl,e1,e2⟩ | ⟨rfl,e⟩
  ·
   constructor
   ·
    intro e; exact absurd e hs
   ·
    intro e; omega
  ·
   rw [hc]
   omega
theorem e4N {l:List Dg} {n:Nat} (hl:IsB l n) (hlen:l.length≤1000000):a2F K0 ((l,()),())=some ((decide (n<U.top),()),()):=c5M hl (by omega)
theorem f7S {l:List Dg} {n:Nat} (h:IsB l n):0<l.length↔0<n:=by
 have:=h.len (k:=0)
 simp only [Nat.pow_zero] at this
 omega
theorem g8V {l:List Dg} {n:Nat} (h:IsB l n) (hl:l.length≤1000000):I.ltb (I.of .i64 0) (I.ofNat .i64 (a0K l))=decide (0<n):=by
 rw [c2H,a5Y,a8H,a2L (by omega) (by omega)]
 by_cases hx:0<n
 ·
  rw [decide_eq_true hx,decide_eq_true ((f7S h).2 hx)]
 ·
  rw [decide_eq_false hx,decide_eq_false (fun h'=>hx ((f7S h).1 h'))]
end Sym

/- Payments: Apply, the laws that compare with the reference. -/
namespace Sym
open Go
noncomputable def a3L:List Post→List Pay→List Post×I .i64
 | out,[]=>(out,I.of .i64 0)
 | out,q::r=>if (b7W out q.1 q.2.1).2.val=0 then a3L (b7W out q.1 q.2.1).1 r else ([],(b7W out q.1 q.2.1).2)
theorem f2F {l:List Post} {a:I .u64} {n:U} (h:(b7W l a n).2.val=0):(b7W l a n).1.length=l.length:=by
 unfold b7W at h ⊢
 split at h
 ·
  split at h
  ·
   split at h
   ·
    split at h
    ·
     rename_i h1 h2 h3 h4
     rw [if_pos h1,if_pos h2,if_pos h3,if_pos h4]
     show (setAt l _ _).length=_
     rw [a7K,List.length_set]
    ·
     exact absurd h (by decide)
   ·
    exact absurd h (by decide)
  ·
   exact absurd h (by decide)
 ·
  exact absurd h (by decide)
theorem f6G (l:List Post) (p:List Pay) (hl:l.length≤1073741824) (hp:p.length≤1073741824):b2U K0 ((l,(p,())),())=some (((a3L l p).1,((a3L l p).2,())),()):=by
 refine Wp.out (T:=fun o=>o=_) ?_
 unfold b2U
 refine Wp.brnT (b3P (by show l.length≤_; exact hl)) ?_
 simp only [a8H,a5Y,c2H,b5U]
 refine Wp.iter (fun s=>∃ i out,s=((p,(out,(i6 i,()))),())∧i≤p.length∧out.length≤1073741824∧a3L out (p.drop i)=a3L l p) (fun s=>p.length-s.1.2.2.1.val.toNat) ?_ ⟨0,l,rfl,by omega,hl,rfl⟩ ?_
 ·
  rintro s ⟨i,out,rfl,hi,ho,he⟩
  simp only [a2L (show i<9223372036854775808 by omega) (show p.length<9223372036854775808 by omega),a3J (show i<9223372036854775808 by omega),a2K (show i+1<9223372036854775808 by omega)]
  refine Wp.brn (fun hc=>?_) (fun hc=>?_)
  ·
   have hc:=of_decide_eq_true hc
   have bi:inB (i6 i) p.length=true:=a3H (by omega) (by omega)
   refine Wp.brnT bi (Wp.brnT bi ?_)
   rw [List.drop_eq_getElem_cons hc,← a3Y dY p i hc] at he
   simp only [a3L] at he
   refine Wp.optF (f1P out _ _ ho) ?_
   refine Wp.brn (fun h=>?_) (fun h=>?_)
   ·
    have h:=iff_neb.1 h
    have h:¬ (b7W out (rdL dY p i).1 (rdL dY p i).2.1).2.val=0:=h
    rw [if_neg h] at he
    rw [← he]
    exact Wp.done rfl
   ·
    have h:=niff_neb.1 h
    have h:(b7W out (rdL dY p i).1 (rdL dY p i).2.1).2.val=0:=h
    rw [if_pos h] at he
    exact Wp.again ⟨i+1,_,rfl,by omega,by rw [f2F h]; exact ho,he⟩ (by show p.length-(i6 (i+1)).val.toNat<p.length-(i6 i).val.toNat; rw [a0Q (by omega),a0Q (by omega)]; omega)
  ·
   have hc:=of_decide_eq_false hc
   rw [List.drop_eq_nil_iff.2 (by omega)] at he
   refine Wp.done ?_
   rw [← he]
   rfl
 ·
  rw [a6Z]
  show p.length-_<_
  omega
end Sym

/- Payments: the law of sums and of Apply. -/
namespace Sym
open Go
end Sym

/- Payments: what a plan pays, and what the table is behind it. -/
namespace Sym
open Go
theorem f7Y {l m:List Nat} (h:l.Perm m):b3C l=b3C m:=by
 induction h with
 | nil=>rfl
 | cons x _ ih=>simp only [b3C,List.foldr_cons] at *; omega
 | swap x y l=>simp only [b3C,List.foldr_cons]; omega
 | trans _ _ ih1 ih2=>exact ih1.trans ih2
theorem ow_iff {p:Post}:ow p=true↔c0J p≠0:=by
 unfold ow
 rw [i0W]
 simp [c0J]
theorem f3E (l:List Post):b3C ((l.filter ow).map c0J)=b3C (l.map c0J):=by
 induction l with
 | nil=>rfl
 | cons p l ih =>
  rw [List.filter_cons]
  split
  ·
   simp only [b3C,List.map_cons,List.foldr_cons] at *; omega
  ·
   rename_i h
   have:c0J p=0:=by
    have:=mt ow_iff.2 h
    omega
   simp only [b3C,List.map_cons,List.foldr_cons] at *; omega
noncomputable abbrev ord (x:List Post):List Post:=(d7V x).map (·.1)
theorem g7G (x:List Post):b3C ((ord x).map c0J)=b3C (x.map c0J):=by
 rw [← f3E x]
 exact f7Y ((c7H x).map c0J)
theorem g8J {x:List Post} {p:Post} (h:p∈ord x):p∈x∧ow p=true:=List.mem_filter.1 ((c7H x).mem_iff.1 h)
theorem f6W {x:List Post} (hx:TableOk x):(ord x).Pairwise fun p q=>Post.addr p≠Post.addr q:=by
 have h:=(table_iff.1 hx).2.2
 have h2:(x.filter ow).Pairwise fun p q=>Post.addr p≠Post.addr q:=(h.filter ow).imp fun {p q} hlt e=>by rw [e] at hlt; omega
 exact (List.Perm.pairwise_iff (fun {p q} h e=>h e.symm) (c7H x)).2 h2
theorem e9C:∀ (o:List Post) (n:Nat),n<U.top→b3C ((b3T o n).map amt)=min n (b3C (o.map c0J))
 | [],n,_=>by simp [b3T,b3C]
 | p::r,n,hn=>by
  simp only [b3T]
  split
  ·
   rename_i h
   subst h
   simp [b3C]
  ·
   have ih:=e9C r (n-min (c0J p) n) (by omega)
   have hv:(U.of (min (c0J p) n)).val=min (c0J p) n:=U.val_of (by omega)
   have:amt (p.addr,(U.of (min (c0J p) n),()))=min (c0J p) n:=hv
   simp only [b3C,List.map_cons,List.foldr_cons,this] at *
   omega
theorem f7V:∀ (l:List Post) (k:Nat) (v:Post),k<l.length→b3C ((setAt l k v).map c0J)+c0J (rdL dP l k)=b3C (l.map c0J)+c0J v
 | [],k,v,h=>by simp at h
 | p::l,0,v,_=>by simp only [setAt,rdL,b3C,List.map_cons,List.foldr_cons]; omega
 | p::l,k+1,v,h=>by
  have:=f7V l k v (by simpa using h)
  simp only [setAt,rdL,b3C,List.map_cons,List.foldr_cons] at *
  omega
theorem f9F {out:List Post} (h:TableOk out) {p:Post} (hp:p∈out):atN out p.addr<out.length∧rdL dP out (atN out p.addr)=p:=by
 obtain ⟨k,hk,rfl⟩:=c7O dP hp
 have e:atN out (Post.addr (rdL dP out k))=k:=g4D hk (iff_eqb.2 rfl) (fun j hj=>niff_eqb.2 (by have:=h.lt k hk j hj; omega))
 rw [e]
 exact ⟨hk,rfl⟩
theorem f8I {out:List Post} (h:TableOk out) {i j:Nat} (hi:i<out.length) (hj:j<out.length) (e:Post.addr (rdL dP out i)=Post.addr (rdL dP out j)):i=j:=by
 rcases Nat.lt_trichotomy i j with h1 | h1 | h1
 ·
  have:=h.lt j hj i h1; rw [e] at this; omega
 ·
  exact h1
 ·
  have:=h.lt i hi j h1; rw [e] at this; omega
theorem d9N:∀ (o:List Post) (n:Nat) (out:List Post),n<U.top→TableOk out→(∀ p∈o,p∈out∧ow p=true)→(o.Pairwise fun p q=>Post.addr p≠Post.addr q) →
  (a3L out (b3T o n)).2=I.of .i64 4∨((a3L out (b3T o n)).2=I.of .i64 0∧TableOk (a3L out (b3T o n)).1∧(a3L out (b3T o n)).1.length=out.length ∧
   (∀ i,Post.addr (rdL dP (a3L out (b3T o n)).1 i)=Post.addr (rdL dP out i)) ∧
   b3C ((a3L out (b3T o n)).1.map c0J)+b3C ((b3T o n).map amt)=b3C (out.map c0J) ∧
   (∀ i,(∀ p∈o,Post.addr p≠Post.addr (rdL dP out i))→rdL dP (a3L out (b3T o n)).1 i=rdL dP out i) ∧
   (∀ t,t+1<(b3T o n).length→∀ i,i<out.length→Post.addr (rdL dP out i)=Post.addr (rdL dP o t)→c0J (rdL dP (a3L out (b3T o n)).1 i)=0))
 | [],n,out,_,ht,_,_=>.inr ⟨rfl,ht,rfl,fun _=>rfl,by simp [b3T,a3L,b3C],fun _ _=>rfl,fun t h=>by simp [b3T] at h⟩
 | p::r,n,out,hn,ht,hin,hap=>by
  by_cases h0:n=0
  ·
   subst h0
   rw [d2O]
   exact .inr ⟨rfl,ht,rfl,fun _=>rfl,by simp [a3L,b3C],fun _ _=>rfl,fun t h=>by simp at h⟩
  ·
   have hpl:b3T (p::r) n=(p.addr,(U.of (min (c0J p) n),()))::b3T r (n-min (c0J p) n):=if_neg h0
   rw [hpl]
   simp only [a3L]
   have ⟨hk,hkp⟩:=f9F ht (hin p (by simp)).1
   obtain ⟨m,hm⟩:∃ m,m=min (c0J p) n:=⟨_,rfl⟩
   rw [← hm]
   have hmv:(U.of m).val=m:=U.val_of (by omega)
   have hmd:m≤c0J p:=by omega
   have hst:b7W out p.addr (U.of m)=if (Post.paid p).val+m<U.top then (setAt out (atN out p.addr) (settled p (U.of m)),I.of .i64 0) else ([],I.of .i64 4):=by
    unfold b7W
    rw [if_pos (tabB_t.2 ht),if_pos hk,hkp,hmv,if_pos (show m≤(Post.due p).val from hmd)]
   rw [hst]
   by_cases hpd:(Post.paid p).val+m<U.top
   ·
    rw [if_pos hpd]
    simp only [show (I.of .i64 0).val=0 from rfl,if_true]
    obtain ⟨k,hkk⟩:∃ k,k=atN out p.addr:=⟨_,rfl⟩
    rw [← hkk] at hk hkp ⊢
    have hT:TableOk (setAt out k (settled p (U.of m))):=g3X ht hk (f1T ((table_iff.1 ht).2.1 p (hin p (by simp)).1) (by rw [hmv]; exact hmd) (by rw [hmv]; exact hpd)) (by rw [hkp]; rfl)
    have ⟨hap1,hap2⟩:=List.pairwise_cons.1 hap
    have hlen:(setAt out k (settled p (U.of m))).length=out.length:=by rw [a7K,List.length_set]
    have haddr:∀ i,Post.addr (rdL dP (setAt out k (settled p (U.of m))) i)=Post.addr (rdL dP out i):=by
     intro i
     rw [c4X]
     split
     ·
      rename_i e
      rw [e.1,hkp]
      rfl
     ·
      rfl
    have hin':∀ q∈r,q∈setAt out k (settled p (U.of m))∧ow q=true:=by
     intro q hq
     have ⟨h1,h2⟩:=hin q (List.mem_cons_of_mem _ hq)
     refine ⟨?_,h2⟩
     obtain ⟨i,hi,e⟩:=c7O dP h1
     have hik:i≠k:=by
      rintro rfl
      rw [hkp] at e
      exact hap1 q hq (by rw [e])
     have:rdL dP (setAt out k (settled p (U.of m))) i=q:=by rw [c4X,if_neg (by omega),e]
     rw [← this]
     exact c3L dP _ i (by rw [hlen]; exact hi)
    have hsum:=f7V out k (settled p (U.of m)) hk
    rw [hkp] at hsum
    have hdn:c0J (settled p (U.of m))=c0J p-m:=by
     show (U.of ((Post.due p).val-(U.of m).val)).val=_
     rw [hmv,U.val_of (by have:=U.lt (Post.due p); omega)]
     rfl
    have ham:amt (p.addr,(U.of m,()))=m:=hmv
    rcases d9N r (n-m) (setAt out k (settled p (U.of m))) (by omega) hT hin' hap2 with h | ⟨g1,g2,g3,g4,g5,g6,g7⟩
    ·
     exact .inl h
    ·
     refine .inr ⟨g1,g2,g3.trans hlen,fun i=>(g4 i).trans (haddr i),?_,fun i hi=>?_,fun t htl i hi he=>?_⟩
     ·
      simp only [List.map_cons,ham]
      have:b3C (m::(b3T r (n-m)).map amt)=m+b3C ((b3T r (n-m)).map amt):=rfl
      rw [this]
      omega
     ·
      rw [g6 i (fun q hq=>by rw [haddr]; exact hi q (List.mem_cons_of_mem _ hq)),c4X,if_neg]
      rintro ⟨rfl,_⟩
      exact hi p (by simp) (by rw [hkp])
     ·
      cases t with
      | zero =>
       have hr:0<(b3T r (n-m)).length:=by simpa using htl
       have hmn:m≠n:=by
        rintro rfl
        rw [Nat.sub_self,d2O] at hr
        simp at hr
       have hmd:m=c0J p:=by omega
       have hik:i=k:=f8I ht hi hk (by rw [he,hkp]; rfl)
       subst hik
       have hpr:∀ q∈r,Post.addr q≠Post.addr (rdL dP (setAt out i (settled p (U.of m))) i):=fun q hq=>by
        rw [haddr,hkp]
        exact fun e=>hap1 q hq e.symm
       rw [g6 i hpr,c4X,if_pos ⟨rfl,hk⟩,hdn]
       omega
      | succ t =>
       exact g7 t (by simpa using htl) i (by rw [hlen]; exact hi) (by rw [haddr]; exact he)
   ·
    rw [if_neg hpd]
    exact .inl rfl
end Sym

/- Payments: a greater pool pays nobody less. -/
namespace Sym
open Go
theorem g1W {x:List Post} (hx:TableOk x) (n:U):g3D x n=(b3T (ord x) n.val,I.of .i64 0):=if_pos (tabB_t.2 hx)
theorem g5D (x:List Post):(ord x).length≤x.length:=by rw [List.length_map]; exact e4T x
end Sym

/- Payments: the oldest debts first. -/
namespace Sym
open Go
end Sym

/- Payments: the payments total the smaller of the pool and the debts. -/
namespace Sym
open Go
end Sym

/- The length of a number in bits. -/
namespace Sym
open Go
theorem d4E {l:IntKind} (x:I .u64) (s:I l) (h0:0≤s.val) (hs:s.val<64):(I.shr x s).nat=x.nat / 2^s.val.toNat:=by
 have hx:=a6K x
 have hm:min s.val.toNat IntKind.u64.bits=s.val.toNat:=by
  have:IntKind.u64.bits=64:=rfl
  omega
 unfold I.shr
 rw [hm,d4C _ _ hx.1]
 have h1:((x.nat / 2^s.val.toNat:Nat):Int)=x.val / (2:Int)^s.val.toNat:=by
  rw [Int.natCast_ediv,a2G]
  simp
 rw [← h1]
 have:=Nat.div_le_self x.nat (2^s.val.toNat)
 have:=a3A x
 exact b7N (by omega)
def Bits (n k:Nat):Prop:=∀ m,k≤m↔n<2^m
theorem Bits.zero:Bits 0 0:=fun m=>⟨fun _=>Nat.pow_pos (by decide),fun _=>Nat.zero_le _⟩
theorem Bits.up {n k s:Nat} (h:Bits (n / 2^s) k) (h1:s=0∨0<n / 2^s):Bits n (k+s):=by
 intro m
 rcases h1 with rfl | h1
 ·
  have:=h m
  simpa using this
 ·
  have hk:1≤k:=by
   rcases Nat.eq_zero_or_pos k with h2 | h2
   ·
    subst h2; have:=(h 0).1 (Nat.le_refl _); rw [Nat.pow_zero] at this; omega
   ·
    exact h2
  by_cases hm:s≤m
  ·
   have e:=h (m-s)
   have e2:n / 2^s<2^(m-s)↔n<2^m:=by
    rw [Nat.div_lt_iff_lt_mul (Nat.pow_pos (by decide)),← Nat.pow_add]
    rw [show m-s+s=m by omega]
   rw [← e2,← e]
   omega
  ·
   have:¬ n<2^m:=by
    intro hn
    have h3:2^m≤2^s:=Nat.pow_le_pow_right (by decide) (by omega)
    have:n / 2^s=0:=Nat.div_eq_of_lt (Nat.lt_of_lt_of_le hn h3)
    omega
   constructor
   ·
    omega
   ·
    intro h; exact absurd h this
def g4N:List Nat:=[0,1,2,2,3,3,3,3,4,4,4,4,4,4,4,4,5,5,5,5,5,5,5,5,5,5,5,5,5,5,5,5,6,6,6,6,6,6,6,6,6,6,6,6,6,6,6,6,6,6,6,6,6,6,6,6,6,6,6,6,6,6,6,6,7,7,7,7,7,7,7,7,7,7,7,7,7,7,7,7,7,7,7,7,7,7,7,7,7,7,7,7,7,7,7,7,7,7,7,7,7,7,7,7,7,7,7,7,7,7,7,7,7,7,7,7,7,7,7,7,7,7,7,7,7,7,7,7,8,8,8,8,8,8,8,8,8,8,8,8,8,8,8,8,8,8,8,8,8,8,8,8,8,8,8,8,8,8,8,8,8,8,8,8,8,8,8,8,8,8,8,8,8,8,8,8,8,8,8,8,8,8,8,8,8,8,8,8,8,8,8,8,8,8,8,8,8,8,8,8,8,8,8,8,8,8,8,8,8,8,8,8,8,8,8,8,8,8,8,8,8,8,8,8,8,8,8,8,8,8,8,8,8,8,8,8,8,8,8,8,8,8,8,8,8,8,8,8,8,8,8,8,8,8,8,8]
theorem g6O:a5H=d9K g4N:=by kernel_rfl
theorem e0Q:∀ i,i<256→rdL 0 g4N i≤8∧∀ m,m≤8→(rdL 0 g4N i≤m↔i<2^m):=by decide +kernel
theorem e5W {i:Nat} (h:i<256):Bits i (rdL 0 g4N i):=by
 intro m
 have ⟨h1,h2⟩:=e0Q i h
 by_cases hm:m≤8
 ·
  exact h2 m hm
 ·
  have:2^8≤2^m:=Nat.pow_le_pow_right (by decide) (by omega)
  omega
theorem e5Q:∀ (l:List Nat) (i:Nat),rdL (I.of .u8 0) (d9K l) i=I.of .u8 ((rdL 0 l i:Nat):Int)
 | [],_=>rfl
 | _::_,0=>rfl
 | _::l,i+1=>e5Q l i
theorem f8E (x:I .u64) (h:x.nat<256):I.nat (I.conv .u8 x)=x.nat∧(I.conv .u8 x).val=x.nat:=by
 have hx:=a2G x
 have:(I.conv .u8 x).val=x.val:=g5I (by omega)
 unfold I.nat at *
 rw [this]
 omega
theorem f7W {x:I .u64} (h:x.nat<256):(I.conv (k:=.u8) .i64 (rdL (I.of .u8 0) a5H (I.nat (I.conv .u8 x))))=i6 (rdL 0 g4N x.nat)∧inB (I.conv .u8 x) 256=true:=by
 have ⟨h1,h2⟩:=f8E x h
 have ⟨h3,_⟩:=e0Q x.nat h
 constructor
 ·
  rw [h1,g6O,e5Q]
  apply I.ext'
  rw [a0Q (by omega)]
  show (I.of .i64 (I.of .u8 ((rdL 0 g4N x.nat:Nat):Int)).val).val=_
  rw [g5I (by omega),b6T (by omega)]
 ·
  exact iff_inB.2 (by rw [h2]; omega)
theorem e8K (n:Nat) (x:I .u64) (h:n<18446744073709551616):I.leb (I.of .u64 (n:Int)) x=decide (n≤x.nat):=by
 have:=a2G x
 have h2:(I.of .u64 (n:Int)).val=n:=b8W ⟨by omega,by omega⟩
 by_cases hc:n≤x.nat
 ·
  rw [decide_eq_true hc]; exact iff_leb.2 (by omega)
 ·
  rw [decide_eq_false hc]; exact niff_leb.2 (by omega)
theorem g0M (a:I .u64):∃ y,b0V K0 ((a,()),())=some y∧∃ k,y=((i6 k,()),())∧Bits a.nat k∧k≤64:=by
 have hb:∀ k,Bits a.nat k→k≤64:=fun k h=>(h 64).2 (by have:=a3A a; omega)
 refine Wp.out (T:=fun o=>∃ y,o=some y∧∃ k,y=((i6 k,()),())∧Bits a.nat k∧k≤64) ?_
 unfold b0V
 refine Wp.jn (fun s=>∃ x n,s=((x,(i6 n,())),())∧x.nat=a.nat / 2^n∧(n=0∨0<x.nat)∧n≤32∧x.nat<4294967296) ?_ ?_
 ·
  rintro s ⟨x,n,rfl,hx,h0,hn,hl⟩
  refine Wp.jn (fun s=>∃ y m,s=((y,(i6 m,())),())∧y.nat=a.nat / 2^m∧(m=0∨0<y.nat)∧m≤48∧y.nat<65536) ?_ ?_
  ·
   rintro s ⟨y,m,rfl,hy,h1,hm,hl2⟩
   have e2:I.of .u64 256=I.of .u64 ((256:Nat):Int):=rfl
   simp only [e2,e8K 256 y (by decide)]
   refine Wp.brn (fun hc=>?_) (fun hc=>?_)
   ·
    have hc:=of_decide_eq_true hc
    have hs:(I.shr y (I.of .u64 8)).nat=y.nat / 256:=d4E y (I.of .u64 8) (by decide) (by decide)
    have hlt:(I.shr y (I.of .u64 8)).nat<256:=by omega
    have ⟨t1,t2⟩:=f7W hlt
    have ⟨t3,_⟩:=e0Q _ hlt
    refine Wp.brnT t2 ?_
    simp only [t1]
    have e8:I.of .i64 8=i6 8:=rfl
    rw [e8,a2K (by omega),a2K (by omega)]
    have hB:Bits a.nat (rdL 0 g4N (I.shr y (I.of .u64 8)).nat+(m+8)):=by
     refine Bits.up ?_ (.inr ?_)
     ·
      rw [Nat.pow_add,← Nat.div_div_eq_div_mul,← hy]
      rw [show y.nat / 2^8=(I.shr y (I.of .u64 8)).nat from hs.symm]
      exact e5W hlt
     ·
      rw [Nat.pow_add,← Nat.div_div_eq_div_mul,← hy]
      omega
    refine ⟨_,rfl,_,rfl,?_,hb _ ?_⟩
    ·
     rw [Nat.add_comm]; exact hB
    ·
     rw [Nat.add_comm]; exact hB
   ·
    have hc:=of_decide_eq_false hc
    have hlt:y.nat<256:=by omega
    have ⟨t1,t2⟩:=f7W hlt
    have ⟨t3,_⟩:=e0Q _ hlt
    refine Wp.brnT t2 ?_
    simp only [t1]
    rw [a2K (by omega)]
    have hB:Bits a.nat (rdL 0 g4N y.nat+m):=by
     refine Bits.up (by rw [← hy]; exact e5W hlt) (by rw [← hy]; exact h1)
    refine ⟨_,rfl,_,rfl,?_,hb _ ?_⟩
    ·
     rw [Nat.add_comm]; exact hB
    ·
     rw [Nat.add_comm]; exact hB
  ·
   intro j hj
   have e2:I.of .u64 65536=I.of .u64 ((65536:Nat):Int):=rfl
   simp only [e2,e8K 65536 x (by decide)]
   refine Wp.brn (fun hc=>hj _ ?_) (fun hc=>hj _ ?_)
   ·
    have hc:=of_decide_eq_true hc
    have hs:(I.shr x (I.of .u64 16)).nat=x.nat / 65536:=d4E x (I.of .u64 16) (by decide) (by decide)
    refine ⟨_,n+16,by rw [show I.of .i64 16=i6 16 from rfl,a2K (by omega)],?_,.inr (by rw [hs]; omega),by omega,by rw [hs]; omega⟩
    rw [hs,Nat.pow_add,← Nat.div_div_eq_div_mul,← hx]
   ·
    have hc:=of_decide_eq_false hc
    exact ⟨x,n,rfl,hx,h0,by omega,by omega⟩
 ·
  intro j hj
  have e2:I.of .u64 4294967296=I.of .u64 ((4294967296:Nat):Int):=rfl
  have ha:=a3A a
  simp only [e2,e8K 4294967296 a (by decide)]
  refine Wp.brn (fun hc=>hj _ ?_) (fun hc=>hj _ ?_)
  ·
   have hc:=of_decide_eq_true hc
   have hs:(I.shr a (I.of .u64 32)).nat=a.nat / 4294967296:=d4E a (I.of .u64 32) (by decide) (by decide)
   exact ⟨_,32,rfl,hs,.inr (by rw [hs]; omega),by omega,by rw [hs]; omega⟩
  ·
   have hc:=of_decide_eq_false hc
   exact ⟨a,0,rfl,by simp,.inl rfl,by omega,by omega⟩
end Sym

/- Pricer: the length of a number, who is found, shares of units. -/
namespace Sym
open Go
theorem Wp.jnI {X R:Type} {T:R→Prop} {J:X→R} {f:(X→R)→R} (h:Wp T (f J)):Wp T (Sym.jn J f):=h
theorem h2P {x:I .u64}:I.neb x (I.of .u64 0)=decide (x.nat≠0):=by
 have hx:=a2G x
 have h0:(I.of .u64 0).val=0:=rfl
 by_cases h:x.nat=0
 ·
  rw [decide_eq_false (by simpa using h)]; exact niff_neb.2 (by omega)
 ·
  rw [decide_eq_true h]; exact iff_neb.2 (by omega)
theorem f6O (a:U):∃ y,b8H K0 ((a,()),())=some y∧∃ k,y=((i6 k,()),())∧Bits a.val k∧k≤256:=by
 obtain ⟨k0,hk0⟩:=g0U
 obtain ⟨z0,z1,z2,z3,⟨⟩⟩:=a
 have hb:∀ k,Bits (U.val (z0,z1,z2,z3,())) k→k≤256:=fun k h=>(h 256).2 (U.lt _)
 have l0:=a3A z0
 have l1:=a3A z1
 have l2:=a3A z2
 have l3:=a3A z3
 refine Wp.out (T:=fun o=>∃ y,o=some y∧∃ k,y=((i6 k,()),())∧Bits (U.val (z0,z1,z2,z3,())) k∧k≤256) ?_
 unfold b8H
 have e3:I.of .i64 3=i6 3:=rfl
 have fin:∀ (j:Nat) (z:I .u64),j≤3→0<z.nat→U.val (z0,z1,z2,z3,()) / 2^(64*j)=z.nat →
   ∃ y,b0V K0 ((z,()),())=some y∧∃ k,(some ((I.add (I.mul (I.of .i64 64) (i6 j)) y.1.1,()),()):Option (((I .i64)×Unit)×Unit))=some ((i6 k,()),())∧Bits (U.val (z0,z1,z2,z3,())) k:=by
  intro j z hj hz he
  obtain ⟨y,hy,k,rfl,hB,hk⟩:=g0M z
  refine ⟨_,hy,k+64*j,?_,Bits.up (by rw [he]; exact hB) (.inr (by rw [he]; exact hz))⟩
  have hm:I.mul (I.of .i64 64) (i6 j)=i6 (64*j):=by
   apply I.ext'
   rw [c3M (by rw [a0Q (by omega)]; show _≤(64:Int)*j∧(64:Int)*j<_; omega),a0Q (by omega),a0Q (by omega)]
   show (64:Int)*j=_
   omega
  show some ((I.add _ (i6 k),()),())=_
  rw [hm,a2K (by omega),Nat.add_comm]
 simp only [hk0,e3,h2P]
 refine Wp.unroll (Wp.brnT rfl (Wp.brnT rfl (Wp.brn (fun h=>Wp.brnT rfl ?_) (fun h=>Wp.next ?_))))
 ·
  have h:z3.nat≠0:=of_decide_eq_true h
  obtain ⟨y,hy,k,e,hB⟩:=fin 3 z3 (by omega) (by omega) (by show (z0.nat+18446744073709551616*(z1.nat+18446744073709551616*(z2.nat+18446744073709551616*z3.nat))) / 2^192=_; omega)
  exact Wp.optF hy (Wp.stop ⟨_,e,k,rfl,hB,hb k hB⟩)
 have h:¬ z3.nat≠0:=of_decide_eq_false h
 refine Wp.unroll (Wp.brnT rfl (Wp.brnT rfl (Wp.brn (fun h=>Wp.brnT rfl ?_) (fun h=>Wp.next ?_))))
 ·
  have h:z2.nat≠0:=of_decide_eq_true h
  obtain ⟨y,hy,k,e,hB⟩:=fin 2 z2 (by omega) (by omega) (by show (z0.nat+18446744073709551616*(z1.nat+18446744073709551616*(z2.nat+18446744073709551616*z3.nat))) / 2^128=_; omega)
  exact Wp.optF hy (Wp.stop ⟨_,e,k,rfl,hB,hb k hB⟩)
 have h:¬ z2.nat≠0:=of_decide_eq_false h
 refine Wp.unroll (Wp.brnT rfl (Wp.brnT rfl (Wp.brn (fun h=>Wp.brnT rfl ?_) (fun h=>Wp.next ?_))))
 ·
  have h:z1.nat≠0:=of_decide_eq_true h
  obtain ⟨y,hy,k,e,hB⟩:=fin 1 z1 (by omega) (by omega) (by show (z0.nat+18446744073709551616*(z1.nat+18446744073709551616*(z2.nat+18446744073709551616*z3.nat))) / 2^64=_; omega)
  exact Wp.optF hy (Wp.stop ⟨_,e,k,rfl,hB,hb k hB⟩)
 have h:¬ z1.nat≠0:=of_decide_eq_false h
 refine Wp.unroll (Wp.brnT rfl (Wp.brnT rfl (Wp.brn (fun h=>Wp.brnT rfl ?_) (fun h=>Wp.next ?_))))
 ·
  have h:z0.nat≠0:=of_decide_eq_true h
  obtain ⟨y,hy,k,e,hB⟩:=fin 0 z0 (by omega) (by omega) (by show (z0.nat+18446744073709551616*(z1.nat+18446744073709551616*(z2.nat+18446744073709551616*z3.nat))) / 2^0=_; omega)
  exact Wp.optF hy (Wp.stop ⟨_,e,k,rfl,hB,hb k hB⟩)
 have h:¬ z0.nat≠0:=of_decide_eq_false h
 refine Wp.unroll (Wp.brnF rfl (Wp.stop ?_))
 refine ⟨_,rfl,0,rfl,?_,by omega⟩
 have:U.val (z0,z1,z2,z3,())=0:=by show z0.nat+18446744073709551616*(z1.nat+18446744073709551616*(z2.nat+18446744073709551616*z3.nat))=0; omega
 rw [this]
 exact Bits.zero
def c0C (units last upto now:I .u64):Nat:=if now.nat=last.nat then units.nat else units.nat*(upto.nat-last.nat) / (now.nat-last.nat)
theorem f6N {n:Nat} (h:n<18446744073709551616):(U.of n).1=I.of .u64 (n:Int):=by
 show I.of .u64 ((n%18446744073709551616:Nat):Int)=_
 rw [Nat.mod_eq_of_lt h]
theorem d4T {x y:I .u64}:I.eqb x y=decide (x.nat=y.nat):=by
 have:=a2G x
 have:=a2G y
 by_cases h:x.nat=y.nat
 ·
  rw [decide_eq_true h]; exact iff_eqb.2 (by omega)
 ·
  rw [decide_eq_false h]; exact niff_eqb.2 (by omega)
theorem sub_nat_le' (a b:I .u64) (h:b.nat≤a.nat):(I.sub a b).nat=a.nat-b.nat:=by
 have:=a2G a
 have:=a2G b
 have:=f6L (a:=a) (b:=b) (by omega)
 have:=a2G (I.sub a b)
 omega
theorem d5E {units last upto now:I .u64} (h1:last.nat≤upto.nat) (h2:upto.nat≤now.nat):c0C units last upto now≤units.nat:=by
 unfold c0C
 split
 ·
  omega
 ·
  refine Nat.div_le_of_le_mul ?_
  rw [Nat.mul_comm]
  exact Nat.mul_le_mul_right _ (by omega)
end Sym

/- Numbers and byte strings as the wire has them: written, read, and read again. -/
namespace Sym
open Go
abbrev Byt:Type:=List (I .u8)
theorem g3L (x:I .u8):(I.nat x:Int)=x.val∧I.nat x<256:=by
 have h:=g0D x
 unfold I.nat
 omega
theorem g3G (n:Nat):I.nat (I.of .u8 (n:Int))=n%256:=by
 have h:(I.of .u8 (n:Int)).val=(n%256:Nat):=by
  show IntKind.u8.wrap (n:Int)=_
  simp only [IntKind.wrap,IntKind.bits,IntKind.signed,Bool.false_and,Bool.false_eq_true,if_false]
  omega
 unfold I.nat
 omega
theorem h2K {a b:I .u8} (h:I.nat a=I.nat b):a=b:=by
 have ha:=(g3L a).1
 have hb:=(g3L b).1
 exact I.ext' (by omega)
def be:Nat→Nat→Byt
 | 0,_=>[]
 | k+1,v=>I.of .u8 ((v / 256^k:Nat):Int)::be k v
theorem d6J:∀ k v,(be k v).length=k
 | 0,_=>rfl
 | k+1,v=>by show (be k v).length+1=_; rw [d6J k v]
def nby (v:Nat):Nat:=if v=0 then 0 else v.log2 / 8+1
theorem h0W (k:Nat):256^k=2^(8*k):=by rw [Nat.pow_mul]
theorem g3M (v:Nat):v<256^nby v:=by
 unfold nby
 by_cases h:v=0
 ·
  rw [if_pos h,h]; decide
 ·
  rw [if_neg h,h0W]
  exact Nat.lt_of_lt_of_le Nat.lt_log2_self (Nat.pow_le_pow_right (by decide) (by omega))
theorem h1W {v:Nat} (h:v≠0):256^(nby v-1)≤v:=by
 unfold nby
 rw [if_neg h,h0W]
 exact Nat.le_trans (Nat.pow_le_pow_right (by decide) (by omega)) (Nat.log2_self_le h)
theorem c7N {v k:Nat} (h:v<256^k):nby v≤k:=by
 by_cases hv:v=0
 ·
  rw [hv]; exact Nat.zero_le _
 ·
  have h1:=h1W hv
  have h2:256^(nby v-1)<256^k:=Nat.lt_of_le_of_lt h1 h
  have:=(Nat.pow_lt_pow_iff_right (by decide)).1 h2
  omega
theorem h0Y {v k:Nat} (h1:256^k≤v) (h2:v<256^(k+1)):nby v=k+1:=by
 have h3:=c7N h2
 have h4:=g3M v
 have h5:256^k<256^nby v:=Nat.lt_of_le_of_lt h1 h4
 have:=(Nat.pow_lt_pow_iff_right (by decide)).1 h5
 omega
def b5Z (v:Nat):Byt:=I.of .u8 ((nby v:Nat):Int)::be (nby v) v
def d4A (x:Byt):Byt:=b5Z x.length++x
def d1U:List Byt→Byt
 | []=>[]
 | x::l=>d4A x++d1U l
theorem e9X (l m:List Byt):d1U (l++m)=d1U l++d1U m:=by
 induction l with
 | nil=>rfl
 | cons x l ih=>show d4A x++d1U (l++m)=(d4A x++d1U l)++d1U m; rw [ih,List.append_assoc]
theorem d0I (v:Nat):(b5Z v).length=nby v+1:=by show (be _ v).length+1=_; rw [d6J]
theorem e1R (x:Byt):(d4A x).length=nby x.length+1+x.length:=by unfold d4A; rw [List.length_append,d0I]
end Sym

/- The law of the gas price's bounds: bytes, numbers, the law. -/
namespace Sym
open Go
theorem b7V {X:Type} (l:List X) (x:X):(a2C l [x]).length=l.length+1:=by simp [a2C]
theorem d0F (v:List (I .i64)) (hv:v.length≤1000):∃ out:List (I .u8),a4P K0 ((v,()),())=some ((out,()),())∧out.length≤24*v.length:=by
 have key:Wp (fun o=>∃ out:List (I .u8),o=some ((out,()),())∧out.length≤24*v.length) (a4P K0 ((v,()),())):=by
  have c1:(I.of .i64 1).val=1:=rfl
  have c8:(I.of .i64 8).val=8:=rfl
  have c24:(I.of .i64 24).val=24:=rfl
  have c64:(I.of .i64 64).val=64:=rfl
  have c20:(I.of .i64 1048576).val=1048576:=rfl
  have c0:(I.of .i64 0).val=0:=rfl
  have hlen:(I.ofNat .i64 (a0K v)).val=v.length:=a2Z (by show v.length<_; omega)
  unfold a4P
  refine Wp.iter (fun x=>x.1.1=v∧0≤x.1.2.1.val∧x.1.2.1.val≤(v.length:Int)∧(x.2.1.length:Int)≤24*x.1.2.1.val) (fun x=>((v.length:Int)-x.1.2.1.val).toNat) ?_ ?_ ?_
  ·
   rintro ⟨⟨l,i,⟨⟩⟩,out,⟨⟩⟩ ⟨hl,hi0,hi1,ho⟩
   simp only at hl hi0 hi1 ho
   subst hl
   refine Wp.brn (fun h=>?_) (fun h=>?_)
   ·
    have h:=iff_ltb.1 h
    simp only [hlen] at h
    have hstep:(I.add i (I.of .i64 1)).val=i.val+1:=by rw [a6A (by omega)]; omega
    refine Wp.brnT (iff_inB.2 ⟨hi0,by simpa [a0K] using h⟩) ?_
    obtain ⟨y,hy,hy0,hy1⟩:=d0Q (rdL (I.of .i64 0) l (I.nat i)) (I.of .i64 1048576) (by decide)
    refine Wp.optF hy ?_
    have q8:(I.quo y (I.of .i64 8)).val=y.val / 8:=c1Q hy0 (by decide)
    have r24:(I.rem (I.quo y (I.of .i64 8)) (I.of .i64 24)).val=y.val / 8%24:=by rw [b9N (by omega) (by decide),q8]; rfl
    have hn:(I.add (I.of .i64 1) (I.rem (I.quo y (I.of .i64 8)) (I.of .i64 24))).val=1+y.val / 8%24:=by rw [a6A (by omega)]; omega
    have hn2:1≤(I.add (I.of .i64 1) (I.rem (I.quo y (I.of .i64 8)) (I.of .i64 24))).val∧(I.add (I.of .i64 1) (I.rem (I.quo y (I.of .i64 8)) (I.of .i64 24))).val≤24:=by omega
    generalize I.add (I.of .i64 1) (I.rem (I.quo y (I.of .i64 8)) (I.of .i64 24))=n at hn2
    refine Wp.jn (fun x=>x.1.1=l∧x.1.2.1=i∧x.1.2.2.1=y∧x.1.2.2.2.1=n∧x.2.1=out) ?_ ?_
    ·
     rintro ⟨⟨l',i',y',n',m,b,⟨⟩⟩,out',⟨⟩⟩ ⟨e1,e2,e3,e4,e5⟩
     simp only at e1 e2 e3 e4 e5
     subst e1 e2 e3 e4 e5
     refine Wp.brn (fun _=>?_) (fun _=>?_)
     ·
      refine Wp.iter (fun x=>x.1.1=l'∧x.1.2.1=i'∧x.1.2.2.2.1=n'∧0≤x.1.2.2.2.2.1.val∧x.1.2.2.2.2.1.val≤n'.val∧(x.2.1.length:Int)≤24*i'.val+x.1.2.2.2.2.1.val) (fun x=>(n'.val-x.1.2.2.2.2.1.val).toNat) ?_ ⟨rfl,rfl,rfl,by show 0≤(I.of .i64 0).val; decide,by show (I.of .i64 0).val≤n'.val; omega,by show (out'.length:Int)≤24*i'.val+(I.of .i64 0).val; omega⟩ (by rw [a6Z]; show (n'.val-(I.of .i64 0).val).toNat<_; omega)
      rintro ⟨⟨l2,i2,y2,n2,j,⟨⟩⟩,out2,⟨⟩⟩ ⟨e1,e2,e3,hj0,hj1,ho2⟩
      simp only at e1 e2 e3 hj0 hj1 ho2
      subst e1 e2 e3
      refine Wp.brn (fun h=>?_) (fun h=>?_)
      ·
       have h:=iff_ltb.1 h
       simp only at h
       have hj:(I.add j (I.of .i64 1)).val=j.val+1:=by rw [a6A (by omega)]; omega
       refine Wp.brnT (iff_fits.2 ?_) ?_
       ·
        show (a2C out2 [_]).length≤_
        rw [b7V]; omega
       ·
        refine Wp.again ⟨rfl,rfl,rfl,?_,?_,?_⟩ ?_
        ·
         show 0≤(I.add j (I.of .i64 1)).val; omega
        ·
         show (I.add j (I.of .i64 1)).val≤_; omega
        ·
         show ((a2C out2 [_]).length:Int)≤_+(I.add j (I.of .i64 1)).val
         rw [b7V]; omega
        ·
         show (_-(I.add j (I.of .i64 1)).val).toNat<_
         simp only; omega
      ·
       refine Wp.done (Wp.again ⟨rfl,?_,?_,?_⟩ ?_)
       ·
        show 0≤(I.add i2 (I.of .i64 1)).val; omega
       ·
        show (I.add i2 (I.of .i64 1)).val≤_; omega
       ·
        show (out2.length:Int)≤24*(I.add i2 (I.of .i64 1)).val; omega
       ·
        show (_-(I.add i2 (I.of .i64 1)).val).toNat<_
        simp only; omega
     ·
      refine Wp.jn (fun x=>x.1.1=l'∧x.1.2.1=i'∧x.1.2.2.1=y'∧x.1.2.2.2.1=n'∧x.2.1=out') ?_ ?_
      ·
       rintro ⟨⟨l3,i3,y3,n3,b3,⟨⟩⟩,out3,⟨⟩⟩ ⟨e1,e2,e3,e4,e5⟩
       simp only at e1 e2 e3 e4 e5
       subst e1 e2 e3 e4 e5
       refine Wp.brn (fun _=>?_) (fun _=>?_)
       ·
        refine Wp.jn (fun x=>x.1.1=l3∧x.1.2.1=i3∧x.1.2.2.1=n3∧x.2.1=out3∧0≤x.1.2.2.2.1.val∧x.1.2.2.2.1.val≤24*(l3.length:Int)) ?_ ?_
        ·
         rintro ⟨⟨l4,i4,n4,fr,⟨⟩⟩,out4,⟨⟩⟩ ⟨e1,e2,e4,e5,hf0,hf1⟩
         simp only at e1 e2 e4 e5 hf0 hf1
         subst e1 e2 e4 e5
         refine Wp.iter (fun x=>x.1.1=l4∧x.1.2.1=i4∧x.1.2.2.1=n4∧x.1.2.2.2.1=fr∧0≤x.1.2.2.2.2.1.val∧x.1.2.2.2.2.1.val≤n4.val∧(x.2.1.length:Int)≤24*i4.val+x.1.2.2.2.2.1.val) (fun x=>(n4.val-x.1.2.2.2.2.1.val).toNat) ?_ ⟨rfl,rfl,rfl,rfl,by show 0≤(I.of .i64 0).val; decide,by show (I.of .i64 0).val≤n4.val; omega,by show (out4.length:Int)≤24*i4.val+(I.of .i64 0).val; omega⟩ (by rw [a6Z]; show (n4.val-(I.of .i64 0).val).toNat<_; omega)
         rintro ⟨⟨l2,i2,n2,f2,j,⟨⟩⟩,out2,⟨⟩⟩ ⟨e1,e2,e3,e4,hj0,hj1,ho2⟩
         simp only at e1 e2 e3 e4 hj0 hj1 ho2
         subst e1 e2 e3 e4
         have o1:0≤(I.add i2 (I.of .i64 1)).val:=by omega
         have o2:(I.add i2 (I.of .i64 1)).val≤(l2.length:Int):=by omega
         have o3:(out2.length:Int)≤24*(I.add i2 (I.of .i64 1)).val:=by omega
         have o4:((l2.length:Int)-(I.add i2 (I.of .i64 1)).val).toNat<((l2.length:Int)-i2.val).toNat:=by omega
         refine Wp.brn (fun h=>?_) (fun h=>Wp.done (Wp.again ⟨rfl,o1,o2,o3⟩ o4))
         have h:=iff_ltb.1 h
         simp only at h
         have hj:(I.add j (I.of .i64 1)).val=j.val+1:=by rw [a6A (by omega)]; omega
         have hfj:(I.add f2 j).val=f2.val+j.val:=by rw [a6A (by omega)]
         have hol:(I.ofNat .i64 (a0K out2)).val=out2.length:=a2Z (by show out2.length<_; omega)
         refine Wp.brn (fun h2=>?_) (fun h2=>Wp.done (Wp.again ⟨rfl,o1,o2,o3⟩ o4))
         have h2:=iff_ltb.1 h2
         simp only [hfj,hol] at h2
         refine Wp.brnT (iff_inB.2 ⟨by show 0≤(I.add f2 j).val; omega,by show (I.add f2 j).val<(out2.length:Int); omega⟩) ?_
         refine Wp.brnT (iff_fits.2 ?_) ?_
         ·
          show (a2C out2 [_]).length≤_
          rw [b7V]; omega
         ·
          refine Wp.again ⟨rfl,rfl,rfl,rfl,?_,?_,?_⟩ ?_
          ·
           show 0≤(I.add j (I.of .i64 1)).val; omega
          ·
           show (I.add j (I.of .i64 1)).val≤_; omega
          ·
           show ((a2C out2 [_]).length:Int)≤_+(I.add j (I.of .i64 1)).val
           rw [b7V]; omega
          ·
           show (_-(I.add j (I.of .i64 1)).val).toNat<_
           simp only; omega
        ·
         intro j4 hj4
         have hol:(I.ofNat .i64 (a0K out3)).val=out3.length:=a2Z (by show out3.length<_; omega)
         refine Wp.brn (fun h=>?_) (fun h=>?_)
         ·
          have h:=iff_ltb.1 h
          simp only [hol] at h
          refine Wp.brnT (iff_nz.2 ?_) ?_
          ·
           show (I.ofNat .i64 (a0K out3)).val≠0
           omega
          ·
           have q64:(I.quo y3 (I.of .i64 64)).val=y3.val / 64:=c1Q hy0 (by decide)
           have hr:(I.rem (I.quo y3 (I.of .i64 64)) (I.ofNat .i64 (a0K out3))).val=y3.val / 64%out3.length:=by rw [b9N (by omega) (by omega),q64,hol]
           refine hj4 _ ⟨rfl,rfl,rfl,rfl,?_,?_⟩
           ·
            show 0≤(I.rem (I.quo y3 (I.of .i64 64)) (I.ofNat .i64 (a0K out3))).val
            rw [hr]
            exact Int.emod_nonneg _ (by omega)
           ·
            show (I.rem (I.quo y3 (I.of .i64 64)) (I.ofNat .i64 (a0K out3))).val≤_
            rw [hr]
            have:=Int.emod_lt_of_pos (y3.val / 64) (b:=(out3.length:Int)) (by omega)
            omega
         ·
          refine hj4 _ ⟨rfl,rfl,rfl,rfl,?_,?_⟩
          ·
           show 0≤(I.of .i64 0).val; omega
          ·
           show (I.of .i64 0).val≤_; omega
       ·
        refine Wp.iter (fun x=>x.1.1=l3∧x.1.2.1=i3∧x.1.2.2.2.1=n3∧0≤x.1.2.2.2.2.1.val∧x.1.2.2.2.2.1.val≤n3.val∧(x.2.1.length:Int)≤24*i3.val+x.1.2.2.2.2.1.val) (fun x=>(n3.val-x.1.2.2.2.2.1.val).toNat) ?_ ⟨rfl,rfl,rfl,by show 0≤(I.of .i64 0).val; decide,by show (I.of .i64 0).val≤n3.val; omega,by show (out3.length:Int)≤24*i3.val+(I.of .i64 0).val; omega⟩ (by rw [a6Z]; show (n3.val-(I.of .i64 0).val).toNat<_; omega)
        rintro ⟨⟨l2,i2,y2,n2,j,⟨⟩⟩,out2,⟨⟩⟩ ⟨e1,e2,e3,hj0,hj1,ho2⟩
        simp only at e1 e2 e3 hj0 hj1 ho2
        subst e1 e2 e3
        refine Wp.brn (fun h=>?_) (fun h=>?_)
        ·
         have h:=iff_ltb.1 h
         simp only at h
         have hj:(I.add j (I.of .i64 1)).val=j.val+1:=by rw [a6A (by omega)]; omega
         refine Wp.brnT (c4P _) ?_
         refine Wp.brnT (iff_fits.2 ?_) ?_
         ·
          show (a2C out2 [_]).length≤_
          rw [b7V]; omega
         ·
          refine Wp.again ⟨rfl,rfl,rfl,?_,?_,?_⟩ ?_
          ·
           show 0≤(I.add j (I.of .i64 1)).val; omega
          ·
           show (I.add j (I.of .i64 1)).val≤_; omega
          ·
           show ((a2C out2 [_]).length:Int)≤_+(I.add j (I.of .i64 1)).val
           rw [b7V]; omega
          ·
           show (_-(I.add j (I.of .i64 1)).val).toNat<_
           simp only; omega
        ·
         refine Wp.done (Wp.again ⟨rfl,?_,?_,?_⟩ ?_)
         ·
          show 0≤(I.add i2 (I.of .i64 1)).val; omega
         ·
          show (I.add i2 (I.of .i64 1)).val≤_; omega
         ·
          show (out2.length:Int)≤24*(I.add i2 (I.of .i64 1)).val; omega
         ·
          show (_-(I.add i2 (I.of .i64 1)).val).toNat<_
          simp only; omega
      ·
       intro j3 hj3
       refine Wp.brn (fun _=>hj3 _ ⟨rfl,rfl,rfl,rfl,rfl⟩) (fun _=>Wp.brn (fun _=>hj3 _ ⟨rfl,rfl,rfl,rfl,rfl⟩) (fun _=>hj3 _ ⟨rfl,rfl,rfl,rfl,rfl⟩))
    ·
     intro j2 hj2
     exact Wp.brn (fun _=>hj2 _ ⟨rfl,rfl,rfl,rfl,rfl⟩) (fun _=>hj2 _ ⟨rfl,rfl,rfl,rfl,rfl⟩)
   ·
    exact Wp.done ⟨out,rfl,by omega⟩
  ·
   exact ⟨rfl,by show 0≤(I.of .i64 0).val; decide,by show (I.of .i64 0).val≤(v.length:Int); omega,by show (([]:List (I .u8)).length:Int)≤24*(I.of .i64 0).val; simp [c0]⟩
  ·
   rw [a6Z]
   show ((v.length:Int)-(I.of .i64 0).val).toNat<_
   omega
 exact key.out
end Sym

/- What is built of numbers; for the law of the gas price's bounds. -/
namespace Sym
open Go
end Sym

/- The law of the gas price and of cover. -/
namespace Sym
open Go
theorem top_pow':U.top=65536^16:=by decide
theorem a7G {l:List Dg} {n:Nat} (h:IsB l n) (hn:n<65536^64):l.length≤1000000:=Nat.le_trans (h.len.2 hn) (by decide)
theorem b6C {n:Nat} (h:n<U.top+U.top):n<65536^64:=Nat.lt_trans h (by decide)
theorem h0J {n:Nat} (h:n<U.top*U.top+U.top):n<65536^64:=Nat.lt_trans h (by decide)
theorem f5T {a b:List Dg} {m n:Nat} (ha:IsB a m) (hb:IsB b n) (hal:a.length≤1000000) (hbl:b.length≤1000000):∃ r,a4N K0 ((a,b,()),())=some ((r,()),())∧IsB r (min m n):=by
 have key:Wp (fun o=>∃ r,o=some ((r,()),())∧IsB r (min m n)) (a4N K0 ((a,b,()),())):=by
  unfold a4N
  refine Wp.optF (c7T ha hb hal hbl) ?_
  unfold c5W
  rcases Nat.lt_trichotomy m n with h | h | h
  ·
   rw [if_pos h]
   exact Wp.brnF rfl ⟨a,rfl,by rw [Nat.min_eq_left (by omega)]; exact ha⟩
  ·
   rw [if_neg (by omega),if_neg (by omega)]
   exact Wp.brnF rfl ⟨a,rfl,by rw [Nat.min_eq_left (by omega)]; exact ha⟩
  ·
   rw [if_neg (by omega),if_pos h]
   exact Wp.brnT rfl ⟨b,rfl,by rw [Nat.min_eq_right (by omega)]; exact hb⟩
 exact key.out
theorem g3Q (f1 f2 f3 f5 f8 f9) (v c t base:U) (h:base.val≤c.val):∃ r,a9N K0 (((f1,f2,f3,v,f5,c,t,f8,f9,()),base,()),())=some ((r,()),())∧IsB r (min t.val (c.val-base.val)):=by
 have hc:=c.lt
 have ht:=t.lt
 have key:Wp (fun o=>∃ r,o=some ((r,()),())∧IsB r (min t.val (c.val-base.val))) (a9N K0 (((f1,f2,f3,v,f5,c,t,f8,f9,()),base,()),())):=by
  unfold a9N
  obtain ⟨l0,e0,b0⟩:=a1I t
  obtain ⟨l1,e1,b1⟩:=a1I c
  obtain ⟨l2,e2,b2⟩:=a1I base
  refine Wp.optF e0 (Wp.optF e1 (Wp.optF e2 ?_))
  obtain ⟨l3,e3,b3⟩:=d0K b1 b2 h (a7G b1 (b6C (by omega)))
  refine Wp.optF e3 ?_
  obtain ⟨l4,e4,b4⟩:=f5T b0 b3 (a7G b0 (b6C (by omega))) (a7G b3 (b6C (by omega)))
  exact Wp.optF e4 ⟨l4,rfl,b4⟩
 exact key.out
theorem g6X (f1 f2 f3 f5 f8 f9) (v c t base:U):a9W K0 (((f1,f2,f3,v,f5,c,t,f8,f9,()),base,()),())=some (((f1M (c,t) base).1,(f1M (c,t) base).2,()),()):=by
 refine Wp.out (T:=fun o=>o=some (((f1M (c,t) base).1,(f1M (c,t) base).2,()),())) ?_
 have hc:=c.lt
 have hb:=base.lt
 unfold a9W f1M
 obtain ⟨l1,e1,b1⟩:=a1I c
 obtain ⟨l2,e2,b2⟩:=a1I base
 refine Wp.optF e1 (Wp.optF e2 ?_)
 refine Wp.optF (c7T b1 b2 (a7G b1 (b6C (by omega))) (a7G b2 (b6C (by omega)))) ?_
 by_cases h:base.val≤c.val
 ·
  rw [if_pos h]
  refine Wp.brnF ?_ ?_
  ·
   show I.ltb (c5W _ _) (I.of .i64 0)=false
   unfold c5W
   rw [if_neg (by omega)]
   split<;>rfl
  refine Wp.optF e2 ?_
  obtain ⟨l3,e3,b3⟩:=g3Q f1 f2 f3 f5 f8 f9 v c t base h
  refine Wp.optF e3 ?_
  obtain ⟨l4,e4,b4⟩:=b3H b2 b3 (a7G b2 (b6C (by omega))) (a7G b3 (b6C (by omega)))
  refine Wp.optF e4 ?_
  refine Wp.optF (Checked_ok' b4 (a7G b4 (b6C (by omega)))) ?_
  rw [show c9B (base.val+min t.val (c.val-base.val))=(U.of (base.val+min t.val (c.val-base.val)),I.of .i64 0) from if_pos (by omega)]
  rfl
 ·
  rw [if_neg h]
  refine Wp.brnT ?_ rfl
  show I.ltb (c5W _ _) (I.of .i64 0)=true
  unfold c5W
  rw [if_pos (by omega)]; rfl
def e0A (lim:I .u64) (price value bal:U):Bool:=decide (lim.nat*price.val+value.val≤bal.val)
theorem g5W (f1 f2 f3 f5 f8:I .u64) (f9:List (I .u8)) (v c t price bal:U):b1B K0 (((f1,f2,f3,v,f5,c,t,f8,f9,()),price,bal,()),())=some ((e0A f5 price v bal,()),()):=by
 have hbal:=bal.lt
 have hp:=price.lt
 have hv:=v.lt
 have hf:I.nat f5<U.top:=by
  have:=a3A f5
  have:U.top=115792089237316195423570985008687907853269984665640564039457584007913129639936:=rfl
  omega
 have hm:I.nat f5*price.val<U.top*U.top:=by
  have h1:I.nat f5*price.val≤(U.top-1)*(U.top-1):=Nat.mul_le_mul (by omega) (by omega)
  exact Nat.lt_of_le_of_lt h1 (by decide)
 refine Wp.out (T:=fun o=>o=some ((e0A f5 price v bal,()),())) ?_
 unfold b1B e0A
 obtain ⟨l0,e0,b0⟩:=a1N f5
 obtain ⟨l1,e1,b1⟩:=a1I price
 refine Wp.optF e0 (Wp.optF e1 ?_)
 obtain ⟨l2,e2,b2⟩:=b3I b0 b1 (a7G b0 (b6C (by omega))) (a7G b1 (b6C (by omega)))
 refine Wp.optF e2 ?_
 obtain ⟨l3,e3,b3⟩:=a1I v
 refine Wp.optF e3 ?_
 obtain ⟨l4,e4,b4⟩:=b3H b2 b3 (a7G b2 (h0J (by omega))) (a7G b3 (b6C (by omega)))
 refine Wp.optF e4 ?_
 obtain ⟨l5,e5,b5⟩:=a1I bal
 refine Wp.optF e5 ?_
 refine Wp.optF (c7T b5 b4 (a7G b5 (b6C (by omega))) (a7G b4 (h0J (by omega)))) ?_
 show some ((I.leb (I.of .i64 0) (c5W bal.val (I.nat f5*price.val+v.val)),()),())=_
 unfold c5W
 by_cases h3:I.nat f5*price.val+v.val≤bal.val
 ·
  rw [if_neg (by omega),decide_eq_true h3]
  split<;>rfl
 ·
  rw [if_pos (by omega),decide_eq_false h3]; rfl
end Sym

/- What the fees rest on. -/

/- The compression: what both programs compute. -/
namespace Sym
open Go
abbrev B8:Type:=I .u8
def at8 (b:List B8) (i:Nat):B8:=rdL (I.of .u8 0) b i
def d7Q (b:List B8) (p d:Nat):Nat→Nat→Nat
 | 0,n=>n
 | f+1,n=>if I.eqb (at8 b (p+n)) (at8 b (p+n-d))=true then d7Q b p d f (n+1) else n
theorem e7N (b:List B8) (p d:Nat):∀ f n,n≤d7Q b p d f n∧d7Q b p d f n≤n+f
 | 0,n=>⟨Nat.le_refl _,Nat.le_refl _⟩
 | f+1,n=>by
  have:=e7N b p d f (n+1)
  show n≤(if I.eqb (at8 b (p+n)) (at8 b (p+n-d))=true then d7Q b p d f (n+1) else n)∧(if I.eqb (at8 b (p+n)) (at8 b (p+n-d))=true then d7Q b p d f (n+1) else n)≤_
  split<;>omega
theorem e5O (b:List B8) (p d:Nat) (hb:b.length≤1073741824) (hm:p≤b.length) (hd:1≤d) (hdp:d≤p):a8O K0 ((b,i6 p,i6 d,()),())=some ((i6 (d7Q b p d (min 131 (b.length-p)) 0),()),()):=by
 obtain ⟨m,em⟩:∃ m,m=min 131 (b.length-p):=⟨_,rfl⟩
 rw [← em]
 refine Wp.out (T:=fun o=>o=some ((i6 (d7Q b p d m 0),()),())) ?_
 unfold a8O
 refine Wp.iter (fun x=>∃ n,n≤m∧x=((b,i6 p,i6 d,i6 n,()),())∧d7Q b p d (m-n) n=d7Q b p d m 0) (fun x=>m-x.1.2.2.2.1.val.toNat) ?_ ⟨0,by omega,rfl,rfl⟩ ?_
 ·
  rintro x ⟨n,hn,rfl,hf⟩
  have hout:¬ n<m→Wp (Rnd (fun o=>o=some ((i6 (d7Q b p d m 0),()),())) (fun x=>∃ n,n≤m∧x=((b,i6 p,i6 d,i6 n,()),())∧d7Q b p d (m-n) n=d7Q b p d m 0) (fun x=>m-x.1.2.2.2.1.val.toNat) (m-(i6 n).val.toNat)) (Stp.done (some ((i6 n,()),()))):=by
   intro h
   refine Wp.done ?_
   show some ((i6 n,()),())=_
   rw [← hf,show m-n=0 by omega]
   rfl
  refine Wp.brn (fun h0=>?_) (fun h0=>?_)
  ·
   have h0:I.ltb (i6 n) (i6 131)=true:=h0
   rw [a2L (by omega) (by omega)] at h0
   have h0:=of_decide_eq_true h0
   refine Wp.brn (fun h=>?_) (fun h=>?_)
   ·
    have h:I.ltb (I.add (i6 p) (i6 n)) (i6 b.length)=true:=h
    rw [a2K (by omega),a2L (by omega) (by omega)] at h
    have h:=of_decide_eq_true h
    simp only [a2K (show p+n<9223372036854775808 by omega),c2V (show p+n<9223372036854775808 by omega) (show d≤p+n by omega),a3J (show p+n<9223372036854775808 by omega),a3J (show p+n-d<9223372036854775808 by omega)]
    refine Wp.brnT (a3H (by show p+n<b.length; omega) (by omega)) (Wp.brnT (a3H (by show p+n-d<b.length; omega) (by omega)) ?_)
    obtain ⟨k,hk⟩:∃ k,m-n=k+1:=⟨m-n-1,by omega⟩
    rw [hk] at hf
    have hf':(if I.eqb (at8 b (p+n)) (at8 b (p+n-d))=true then d7Q b p d k (n+1) else n)=d7Q b p d m 0:=hf
    refine Wp.brn (fun h2=>?_) (fun h2=>?_)
    ·
     rw [if_pos (show I.eqb (at8 b (p+n)) (at8 b (p+n-d))=true from h2)] at hf'
     refine Wp.again ⟨n+1,by omega,?_,by rw [show m-(n+1)=k by omega]; exact hf'⟩ ?_
     ·
      show ((b,i6 p,i6 d,I.add (i6 n) (i6 1),()),())=_
      rw [a2K (by omega)]
     ·
      show m-(I.add (i6 n) (i6 1)).val.toNat<m-(i6 n).val.toNat
      rw [a2K (by omega),a0Q (by omega),a0Q (by omega)]
      omega
    ·
     rw [if_neg (show ¬ I.eqb (at8 b (p+n)) (at8 b (p+n-d))=true by rw [show I.eqb (at8 b (p+n)) (at8 b (p+n-d))=false from h2]; simp)] at hf'
     refine Wp.done ?_
     show some ((i6 n,()),())=_
     rw [hf']
   ·
    have h:I.ltb (I.add (i6 p) (i6 n)) (i6 b.length)=false:=h
    rw [a2K (by omega),a2L (by omega) (by omega)] at h
    have h:=of_decide_eq_false h
    exact hout (by omega)
  ·
   have h0:I.ltb (i6 n) (i6 131)=false:=h0
   rw [a2L (by omega) (by omega)] at h0
   have h0:=of_decide_eq_false h0
   exact hout (by omega)
 ·
  exact c0O _ (by show m-(i6 0).val.toNat<_; omega)
def bst (b:List B8) (p m:Nat):Nat→Nat→Nat×Nat→Nat×Nat
 | 0,_,r=>r
 | f+1,d,r=>bst b p m f (d+1) (if r.1<d7Q b p d m 0 then (d7Q b p d m 0,d) else r)
theorem g4O (b:List B8) (p m:Nat):∀ f d r,r.1≤m→1≤d→d+f≤1025→(1≤r.1→1≤r.2∧r.2≤1024)→r.2≤1024→(bst b p m f d r).1≤m∧(bst b p m f d r).2≤1024∧(1≤(bst b p m f d r).1→1≤(bst b p m f d r).2∧(bst b p m f d r).2≤1024)
 | 0,d,r,h,_,_,h1,h2=>⟨h,h2,h1⟩
 | f+1,d,r,h,hd,hf,h1,h2=>by
  have h3:=(e7N b p d m 0).2
  refine g4O b p m f (d+1) _ ?_ (by omega) (by omega) ?_ ?_
  ·
   split<;>omega
  ·
   split
   ·
    intro _; simp only; omega
   ·
    exact h1
  ·
   split<;>omega
def b1M (b:List B8) (p:Nat):Nat×Nat:=bst b p (min 131 (b.length-p)) (min 1024 p) 1 (0,0)
theorem g2K (b:List B8) (p:Nat):(b1M b p).1≤min 131 (b.length-p)∧(b1M b p).2≤1024∧(1≤(b1M b p).1→1≤(b1M b p).2∧(b1M b p).2≤1024) :=
 g4O b p _ _ 1 (0,0) (by simp) (by omega) (by omega) (by simp) (by simp)
theorem g2C (b:List B8) (p:Nat) (hb:b.length≤1073741824) (hp:p≤b.length):b5O K0 ((b,i6 p,()),())=some ((i6 (b1M b p).1,i6 (b1M b p).2,()),()):=by
 obtain ⟨m,em⟩:∃ m,m=min 131 (b.length-p):=⟨_,rfl⟩
 obtain ⟨D,eD⟩:∃ D,D=min 1024 p:=⟨_,rfl⟩
 have eS:b1M b p=bst b p m D 1 (0,0):=by rw [em,eD]; rfl
 rw [eS]
 refine Wp.out (T:=fun o=>o=some ((i6 (bst b p m D 1 (0,0)).1,i6 (bst b p m D 1 (0,0)).2,()),())) ?_
 unfold b5O
 refine Wp.iter (fun x=>∃ d r,1≤d∧d≤D+1∧r.1≤m∧r.2≤D∧x=((b,i6 p,i6 r.1,i6 r.2,i6 d,()),())∧bst b p m (D+1-d) d r=bst b p m D 1 (0,0)) (fun x=>D+1-x.1.2.2.2.2.1.val.toNat) ?_ ⟨1,(0,0),by omega,by omega,by simp,by simp,rfl,by rw [show D+1-1=D by omega]⟩ ?_
 ·
  rintro x ⟨d,r,h1,h2,h3,h4,rfl,hf⟩
  refine Wp.jn (fun x1=>d≤D∧x1.1.1=b∧x1.1.2.1=i6 p∧x1.1.2.2.1=i6 r.1∧x1.1.2.2.2.1=i6 r.2∧x1.1.2.2.2.2.1=i6 d) ?_ ?_
  ·
   rintro ⟨⟨y1,y2,y3,y4,y6,y7,y8,y9,⟨⟩⟩,⟨⟩⟩ ⟨hd,e1,e2,e3,e4,e6⟩
   simp only at e1 e2 e3 e4 e6
   subst e1 e2 e3 e4 e6
   refine Wp.optF (e5O y1 p d hb hp h1 (by omega)) ?_
   rw [← em]
   have hml:=(e7N y1 p d m 0).2
   obtain ⟨k,hk⟩:∃ k,D+1-d=k+1:=⟨D-d,by omega⟩
   rw [hk] at hf
   have hf':bst y1 p m k (d+1) (if r.1<d7Q y1 p d m 0 then (d7Q y1 p d m 0,d) else r)=bst y1 p m D 1 (0,0):=hf
   have hmu:D+1-(I.add (i6 d) (i6 1)).val.toNat<D+1-(i6 d).val.toNat:=by
    rw [a2K (by omega),a0Q (by omega),a0Q (by omega)]
    omega
   refine Wp.brn (fun h=>?_) (fun h=>?_)
   ·
    have h:I.ltb (i6 r.1) (i6 (d7Q y1 p d m 0))=true:=h
    rw [a2L (by omega) (by omega)] at h
    have h:=of_decide_eq_true h
    rw [if_pos h] at hf'
    refine Wp.again ⟨d+1,(d7Q y1 p d m 0,d),by omega,by omega,by simp only; omega,by simp only; omega,?_,by rw [show D+1-(d+1)=k by omega]; exact hf'⟩ hmu
    show ((y1,i6 p,i6 (d7Q y1 p d m 0),i6 d,I.add (i6 d) (i6 1),()),())=_
    rw [a2K (by omega)]
   ·
    have h:I.ltb (i6 r.1) (i6 (d7Q y1 p d m 0))=false:=h
    rw [a2L (by omega) (by omega)] at h
    have h:=of_decide_eq_false h
    rw [if_neg h] at hf'
    refine Wp.again ⟨d+1,r,by omega,by omega,h3,h4,?_,by rw [show D+1-(d+1)=k by omega]; exact hf'⟩ hmu
    show ((y1,i6 p,i6 r.1,i6 r.2,I.add (i6 d) (i6 1),()),())=_
    rw [a2K (by omega)]
  ·
   intro j hj
   have hend:¬ d≤D→Wp (Rnd (fun o=>o=some ((i6 (bst b p m D 1 (0,0)).1,i6 (bst b p m D 1 (0,0)).2,()),())) (fun x=>∃ d r,1≤d∧d≤D+1∧r.1≤m∧r.2≤D∧x=((b,i6 p,i6 r.1,i6 r.2,i6 d,()),())∧bst b p m (D+1-d) d r=bst b p m D 1 (0,0)) (fun x=>D+1-x.1.2.2.2.2.1.val.toNat) (D+1-(i6 d).val.toNat)) (Stp.done (some ((i6 r.1,i6 r.2,()),()))):=by
    intro h
    refine Wp.done ?_
    show some ((i6 r.1,i6 r.2,()),())=_
    rw [← hf,show D+1-d=0 by omega]
    rfl
   refine Wp.brn (fun h=>?_) (fun h=>?_)
   ·
    have h:I.leb (i6 d) (i6 1024)=true:=h
    rw [e5E (by omega) (by omega)] at h
    have h:=of_decide_eq_true h
    refine Wp.brn (fun h5=>?_) (fun h5=>?_)
    ·
     have h5:I.leb (i6 d) (i6 p)=true:=h5
     rw [e5E (by omega) (by omega)] at h5
     have h5:=of_decide_eq_true h5
     exact hj _ ⟨by omega,rfl,rfl,rfl,rfl,rfl⟩
    ·
     have h5:I.leb (i6 d) (i6 p)=false:=h5
     rw [e5E (by omega) (by omega)] at h5
     have h5:=of_decide_eq_false h5
     exact hend (by omega)
   ·
    have h:I.leb (i6 d) (i6 1024)=false:=h
    rw [e5E (by omega) (by omega)] at h
    have h:=of_decide_eq_false h
    exact hend (by omega)
 ·
  exact c0O _ (by show D+1-(i6 1).val.toNat<_; omega)
end Sym

/- The compression: both programs answer alike. -/
namespace Sym
open Go
def lits:Nat→List B8→List B8→List B8
 | 0,out,_=>out
 | f+1,out,s=>if s.length=0 then out else lits f ((out++[I.of .u8 ((min s.length 127:Nat):Int)])++s.take (min s.length 127)) (s.drop (min s.length 127))
theorem e3W:∀ f g out (s:List B8),s.length≤f→s.length≤g→lits f out s=lits g out s
 | 0,0,_,_,_,_=>rfl
 | 0,g+1,out,s,h,_=>by
  show out=if s.length=0 then out else _
  rw [if_pos (by omega)]
 | f+1,0,out,s,_,h=>by
  show (if s.length=0 then out else _)=out
  rw [if_pos (by omega)]
 | f+1,g+1,out,s,h,h'=>by
  show (if s.length=0 then out else lits f _ _)=if s.length=0 then out else lits g _ _
  by_cases h0:s.length=0
  ·
   rw [if_pos h0,if_pos h0]
  ·
   rw [if_neg h0,if_neg h0]
   exact e3W f g _ _ (by rw [List.length_drop]; omega) (by rw [List.length_drop]; omega)
def e6B (out s:List B8):List B8:=lits s.length out s
theorem e9S (out:List B8) {s:List B8} (h:s.length=0):e6B out s=out:=by
 unfold e6B
 rw [h]
 rfl
theorem d1J (out:List B8) {s:List B8} (h:s.length≠0):e6B out s=e6B ((out++[I.of .u8 ((min s.length 127:Nat):Int)])++s.take (min s.length 127)) (s.drop (min s.length 127)):=by
 unfold e6B
 obtain ⟨k,hk⟩:∃ k,s.length=k+1:=⟨s.length-1,by omega⟩
 have:lits s.length out s=lits (k+1) out s:=by rw [hk]
 rw [this]
 show (if s.length=0 then out else lits k _ _)=_
 rw [if_neg h]
 exact e3W _ _ _ _ (by rw [List.length_drop]; omega) (Nat.le_refl _)
def tok (r:Nat×Nat):List B8:=[I.of .u8 ((r.1+124:Nat):Int),I.of .u8 (((r.2-1) / 256:Nat):Int),I.of .u8 (((r.2-1)%256:Nat):Int)]
def g6P (b:List B8):Nat→Nat→Nat→List B8→List B8
 | 0,fr,_,out=>e6B out (b.drop fr)
 | f+1,fr,p,out=>if p<b.length then (if (b1M b p).1<4 then g6P b f fr (p+1) out else g6P b f (p+(b1M b p).1) (p+(b1M b p).1) (e6B out (a3T b fr (p-fr))++tok (b1M b p))) else e6B out (b.drop fr)
def e6A (b:List B8):List B8:=g6P b b.length 0 0 []
theorem g0Q {b:List B8} {f fr p:Nat} {out:List B8} (h:b.length≤p):g6P b f fr p out=e6B out (b.drop fr):=by
 cases f with
 | zero=>rfl
 | succ f =>
  show (if p<b.length then _ else e6B out (b.drop fr))=_
  rw [if_neg (by omega)]
theorem d1A {n:Nat} (h:n<9223372036854775808):I.conv (k:=.i64) .u8 (i6 n)=I.of .u8 (n:Int):=by
 unfold I.conv
 rw [a0Q h]
theorem h0S {n:Nat} (h:n<9223372036854775808):I.quo (i6 n) (i6 256)=i6 (n / 256):=by
 apply I.ext'
 rw [c1Q (by rw [a0Q h]; omega) (by decide),a0Q h,a0Q (by omega),a0Q (by omega)]
 omega
theorem g9L {n:Nat} (h:n<9223372036854775808):I.rem (i6 n) (i6 256)=i6 (n%256):=by
 apply I.ext'
 rw [b9N (by rw [a0Q h]; omega) (by decide),a0Q h,a0Q (by omega),a0Q (by omega)]
 omega
end Sym

/- The compression of the reference. -/
namespace Sym
open Go
theorem e5F (b:List B8) (hb:b.length≤100000000):b0N K0 ((b,()),())=some ((e6A b,()),())∧True:=by
 refine Wp.out (T:=fun o=>o=some ((e6A b,()),())∧True) ?_
 unfold b0N
 refine Wp.iter (fun x=>∃ fr p out f,fr≤p∧p≤b.length∧out.length≤2*fr∧b.length-p≤f∧x=((b,i6 fr,i6 p,()),(out,()))∧g6P b f fr p out=e6A b) (fun x=>b.length-x.1.2.2.1.val.toNat) ?_ ⟨0,0,[],b.length,by omega,by omega,by simp,by omega,rfl,rfl⟩ ?_
 ·
  rintro x ⟨fr,p,out,f,h1,h2,h3,h4,rfl,hf⟩
  refine Wp.brn (fun h=>?_) (fun h=>?_)
  ·
   have h:I.ltb (i6 p) (i6 b.length)=true:=h
   rw [a2L (by omega) (by omega)] at h
   have h:=of_decide_eq_true h
   obtain ⟨k,rfl⟩:∃ k,f=k+1:=⟨f-1,by omega⟩
   have hf':(if p<b.length then (if (b1M b p).1<4 then g6P b k fr (p+1) out else g6P b k (p+(b1M b p).1) (p+(b1M b p).1) (e6B out (a3T b fr (p-fr))++tok (b1M b p))) else e6B out (b.drop fr))=e6A b:=hf
   rw [if_pos h] at hf'
   refine Wp.optF (g2C b p (by omega) h2) ?_
   obtain ⟨q1,q2,q3⟩:=g2K b p
   refine Wp.brn (fun h5=>?_) (fun h5=>?_)
   ·
    have h5:I.ltb (i6 (b1M b p).1) (i6 4)=true:=h5
    rw [a2L (by omega) (by omega)] at h5
    have h5:=of_decide_eq_true h5
    rw [if_pos h5] at hf'
    refine Wp.again ⟨fr,p+1,out,k,by omega,by omega,h3,by omega,?_,hf'⟩ ?_
    ·
     show ((b,i6 fr,I.add (i6 p) (i6 1),()),(out,()))=_
     rw [a2K (by omega)]
    ·
     show b.length-(I.add (i6 p) (i6 1)).val.toNat<b.length-(i6 p).val.toNat
     rw [a2K (by omega),a0Q (by omega),a0Q (by omega)]
     omega
   ·
    have h5:I.ltb (i6 (b1M b p).1) (i6 4)=false:=h5
    rw [a2L (by omega) (by omega)] at h5
    have h5:=of_decide_eq_false h5
    rw [if_neg h5] at hf'
    have ep:I.nat (i6 p)=p:=a3J (by omega)
    have ef:I.nat (i6 fr)=fr:=a3J (by omega)
    simp only [ep,ef]
    refine Wp.brnT (i6_inB' (by omega) (by omega)) (Wp.brnT (i6_inB' h2 (by omega)) ?_)
    generalize hs0:a3T b fr (p-fr)=s0 at hf' ⊢
    have hs0l:s0.length=p-fr:=by rw [← hs0]; simp [a3T]; omega
    refine Wp.iter (fun y=>∃ s o,y=((s,b,i6 p,i6 (b1M b p).1,i6 (b1M b p).2,()),(o,()))∧e6B o s=e6B out s0∧o.length+2*s.length≤2*p) (fun y=>y.1.1.length) ?_ ⟨s0,out,rfl,rfl,by omega⟩ (c0O _ (by show s0.length<_; omega))
    rintro y ⟨s,o,rfl,hl,hlen⟩
    refine Wp.brn (fun h6=>?_) (fun h6=>?_)
    ·
     have h6:I.ltb (i6 0) (i6 s.length)=true:=h6
     rw [a2L (by omega) (by omega)] at h6
     have h6:=of_decide_eq_true h6
     refine Wp.brn (fun h7=>?_) (fun h7=>?_)
     ·
      have h7:I.ltb (i6 127) (i6 s.length)=true:=h7
      rw [a2L (by omega) (by omega)] at h7
      have h7:=of_decide_eq_true h7
      simp only [c7M,c3O]
      refine Wp.brnT (iff_fits.2 (by simp [a2C,a0K]; omega)) (Wp.brnT (i6_inB' (n:=127) (by show 127≤s.length; omega) (by omega)) (Wp.brnT (iff_fits.2 (by simp [a2C,a0K]; omega)) (Wp.brnT (i6_inB' (n:=127) (by show 127≤s.length; omega) (by omega)) ?_)))
      refine Wp.again ⟨s.drop 127,(o++[I.of .u8 ((127:Nat):Int)])++s.take 127,rfl,?_,?_⟩ ?_
      ·
       rw [← hl,d1J o (by omega),show min s.length 127=127 by omega]
      ·
       simp only [List.length_append,List.length_cons,List.length_nil,List.length_take,List.length_drop]
       omega
      ·
       show (s.drop 127).length<s.length
       rw [List.length_drop]; omega
     ·
      have h7:I.ltb (i6 127) (i6 s.length)=false:=h7
      rw [a2L (by omega) (by omega)] at h7
      have h7:=of_decide_eq_false h7
      have em':I.ofNat .i64 (a0K s)=i6 s.length:=rfl
      simp only [em',a3J (show s.length<9223372036854775808 by omega),d1A (show s.length<9223372036854775808 by omega),c7M,c3O]
      refine Wp.brnT (iff_fits.2 (by simp [a2C,a0K]; omega)) (Wp.brnT (i6_inB' (n:=s.length) (by show s.length≤s.length; omega) (by omega)) (Wp.brnT (iff_fits.2 (by simp [a2C,a0K]; omega)) (Wp.brnT (i6_inB' (n:=s.length) (by show s.length≤s.length; omega) (by omega)) ?_)))
      refine Wp.again ⟨s.drop s.length,(o++[I.of .u8 ((s.length:Nat):Int)])++s.take s.length,rfl,?_,?_⟩ ?_
      ·
       rw [← hl,d1J o (by omega),show min s.length 127=s.length by omega]
      ·
       simp only [List.length_append,List.length_cons,List.length_nil,List.length_take,List.length_drop]
       omega
      ·
       show (s.drop s.length).length<s.length
       rw [List.length_drop]; omega
    ·
     have h6:I.ltb (i6 0) (i6 s.length)=false:=h6
     rw [a2L (by omega) (by omega)] at h6
     have h6:=of_decide_eq_false h6
     rw [e9S o (by omega)] at hl
     have et:a2C o ((I.conv (k:=.i64) .u8 (I.add (i6 (b1M b p).1) (I.of .i64 124)))::((I.conv (k:=.i64) .u8 (I.quo (I.sub (i6 (b1M b p).2) (I.of .i64 1)) (I.of .i64 256)))::((I.conv (k:=.i64) .u8 (I.rem (I.sub (i6 (b1M b p).2) (I.of .i64 1)) (I.of .i64 256)))::[])))=o++tok (b1M b p):=by
      have e1:I.add (i6 (b1M b p).1) (I.of .i64 124)=i6 ((b1M b p).1+124):=a2K (m:=124) (by omega)
      have e2:I.sub (i6 (b1M b p).2) (I.of .i64 1)=i6 ((b1M b p).2-1):=c2V (m:=1) (by omega) (by omega)
      have e3:I.quo (i6 ((b1M b p).2-1)) (I.of .i64 256)=i6 (((b1M b p).2-1) / 256):=h0S (by omega)
      have e4:I.rem (i6 ((b1M b p).2-1)) (I.of .i64 256)=i6 (((b1M b p).2-1)%256):=g9L (by omega)
      rw [e1,e2,e3,e4,d1A (by omega),d1A (by omega),d1A (by omega)]
      rfl
     refine Wp.done ?_
     rw [et]
     have hlt:(tok (b1M b p)).length=3:=rfl
     refine Wp.brnT (iff_fits.2 (by simp only [a0K,List.length_append,hlt]; omega)) ?_
     have ea:I.add (i6 p) (i6 (b1M b p).1)=i6 (p+(b1M b p).1):=a2K (by omega)
     rw [ea]
     refine Wp.again ⟨p+(b1M b p).1,p+(b1M b p).1,o++tok (b1M b p),k,by omega,by omega,?_,by omega,rfl,?_⟩ ?_
     ·
      simp only [List.length_append,hlt]; omega
     ·
      rw [hl]; exact hf'
     ·
      show b.length-(i6 (p+(b1M b p).1)).val.toNat<b.length-(i6 p).val.toNat
      rw [a0Q (by omega),a0Q (by omega)]
      omega
  ·
   have h:I.ltb (i6 p) (i6 b.length)=false:=h
   rw [a2L (by omega) (by omega)] at h
   have h:=of_decide_eq_false h
   rw [g0Q (by omega)] at hf
   refine Wp.done ?_
   have ef:I.nat (i6 fr)=fr:=a3J (by omega)
   simp only [ef,c3O]
   refine Wp.brnT (i6_inB' (by show fr≤b.length; omega) (by omega)) ?_
   have hs0l:(b.drop fr).length=b.length-fr:=List.length_drop
   generalize b.drop fr=s0 at hf hs0l ⊢
   refine Wp.iter (fun y=>∃ s o,y=((s,()),(o,()))∧e6B o s=e6B out s0∧o.length+2*s.length≤2*b.length) (fun y=>y.1.1.length) ?_ ⟨s0,out,rfl,rfl,by omega⟩ (c0O _ (by show s0.length<_; omega))
   rintro y ⟨s,o,rfl,hl,hlen⟩
   refine Wp.brn (fun h6=>?_) (fun h6=>?_)
   ·
    have h6:I.ltb (i6 0) (i6 s.length)=true:=h6
    rw [a2L (by omega) (by omega)] at h6
    have h6:=of_decide_eq_true h6
    refine Wp.brn (fun h7=>?_) (fun h7=>?_)
    ·
     have h7:I.ltb (i6 127) (i6 s.length)=true:=h7
     rw [a2L (by omega) (by omega)] at h7
     have h7:=of_decide_eq_true h7
     simp only [c7M,c3O]
     refine Wp.brnT (iff_fits.2 (by simp [a2C,a0K]; omega)) (Wp.brnT (i6_inB' (n:=127) (by show 127≤s.length; omega) (by omega)) (Wp.brnT (iff_fits.2 (by simp [a2C,a0K]; omega)) (Wp.brnT (i6_inB' (n:=127) (by show 127≤s.length; omega) (by omega)) ?_)))
     refine Wp.again ⟨s.drop 127,(o++[I.of .u8 ((127:Nat):Int)])++s.take 127,rfl,?_,?_⟩ ?_
     ·
      rw [← hl,d1J o (by omega),show min s.length 127=127 by omega]
     ·
      simp only [List.length_append,List.length_cons,List.length_nil,List.length_take,List.length_drop]
      omega
     ·
      show (s.drop 127).length<s.length
      rw [List.length_drop]; omega
    ·
     have h7:I.ltb (i6 127) (i6 s.length)=false:=h7
     rw [a2L (by omega) (by omega)] at h7
     have h7:=of_decide_eq_false h7
     have em':I.ofNat .i64 (a0K s)=i6 s.length:=rfl
     simp only [em',a3J (show s.length<9223372036854775808 by omega),d1A (show s.length<9223372036854775808 by omega),c7M,c3O]
     refine Wp.brnT (iff_fits.2 (by simp [a2C,a0K]; omega)) (Wp.brnT (i6_inB' (n:=s.length) (by show s.length≤s.length; omega) (by omega)) (Wp.brnT (iff_fits.2 (by simp [a2C,a0K]; omega)) (Wp.brnT (i6_inB' (n:=s.length) (by show s.length≤s.length; omega) (by omega)) ?_)))
     refine Wp.again ⟨s.drop s.length,(o++[I.of .u8 ((s.length:Nat):Int)])++s.take s.length,rfl,?_,?_⟩ ?_
     ·
      rw [← hl,d1J o (by omega),show min s.length 127=s.length by omega]
     ·
      simp only [List.length_append,List.length_cons,List.length_nil,List.length_take,List.length_drop]
      omega
     ·
      show (s.drop s.length).length<s.length
      rw [List.length_drop]; omega
   ·
    have h6:I.ltb (i6 0) (i6 s.length)=false:=h6
    rw [a2L (by omega) (by omega)] at h6
    have h6:=of_decide_eq_false h6
    rw [e9S o (by omega)] at hl
    refine Wp.done ?_
    rw [← hf,← hl]
    exact ⟨rfl,trivial⟩
 ·
  exact c0O _ (by show b.length-(i6 0).val.toNat<_; omega)
end Sym

/- The fees: units of data, gas, the shares. -/
namespace Sym
open Go
theorem Wp.jnZ {X R:Type} {T:R→Prop} {J:X→R} {f:(X→R)→R} (h:Wp T (f J)):Wp T (Sym.jn J f):=h
def c5P (b:List B8) (lo hi:I .u64):I .u64×I .i64 :=
 if I.ltb hi lo=true then (I.of .u64 0,I.of .i64 2) else if 4096<b.length then (I.of .u64 0,I.of .i64 6)
 else (I.mn (I.mx (I.mul (I.of .u64 16) (I.conv (k:=.i64) .u64 (i6 (e6A b).length))) lo) hi,I.of .i64 0)
theorem mul_comm' {k:IntKind} (a b:I k):I.mul a b=I.mul b a:=by unfold I.mul; rw [Int.mul_comm]
theorem f7B (b:List B8) (lo hi:I .u64) (hb:b.length≤100000000):b2L K0 ((b,lo,hi,()),())=some (((c5P b lo hi).1,(c5P b lo hi).2,()),()):=by
 refine Wp.out (T:=fun o=>o=some (((c5P b lo hi).1,(c5P b lo hi).2,()),())) ?_
 unfold b2L c5P
 refine Wp.brn (fun h=>?_) (fun h=>?_)
 ·
  rw [if_pos h]; rfl
 ·
  rw [if_neg (by rw [show I.ltb hi lo=false from h]; simp)]
  refine Wp.brn (fun h2=>?_) (fun h2=>?_)
  ·
   have h2:I.ltb (i6 4096) (i6 b.length)=true:=h2
   rw [a2L (by omega) (by omega)] at h2
   rw [if_pos (of_decide_eq_true h2)]; rfl
  ·
   have h2:I.ltb (i6 4096) (i6 b.length)=false:=h2
   rw [a2L (by omega) (by omega)] at h2
   rw [if_neg (of_decide_eq_false h2)]
   refine Wp.optF (e5F b hb).1 (Wp.jnZ ?_)
   have em:I.mul (I.conv (k:=.i64) .u64 (I.ofNat .i64 (a0K (e6A b)))) (I.of .u64 16)=I.mul (I.of .u64 16) (I.conv (k:=.i64) .u64 (i6 (e6A b).length)):=mul_comm' _ _
   simp only [em]
   generalize I.mul (I.of .u64 16) (I.conv (k:=.i64) .u64 (i6 (e6A b).length))=n
   unfold I.mn I.mx
   refine Wp.brn (fun h3=>?_) (fun h3=>?_)
   ·
    have h3:=iff_ltb.1 h3
    rw [if_pos h3]
    refine Wp.brn (fun h4=>?_) (fun h4=>?_)
    ·
     have h4:=iff_ltb.1 h4; rw [if_pos h4]; rfl
    ·
     have h4:=niff_ltb.1 h4; rw [if_neg (Int.not_lt.2 h4)]; rfl
   ·
    have h3:=niff_ltb.1 h3
    rw [if_neg (Int.not_lt.2 h3)]
    refine Wp.brn (fun h4=>?_) (fun h4=>?_)
    ·
     have h4:=iff_ltb.1 h4; rw [if_pos h4]; rfl
    ·
     have h4:=niff_ltb.1 h4; rw [if_neg (Int.not_lt.2 h4)]; rfl
abbrev CH:Type:=I .u64×I .u64×I .u64×I .u64×Bool×U×U×U×U×U×Unit
def zU:U:=(I.of .u64 0,I.of .u64 0,I.of .u64 0,I.of .u64 0,())
def zCH:CH:=(I.of .u64 0,I.of .u64 0,I.of .u64 0,I.of .u64 0,false,zU,zU,zU,zU,zU,())
def h6S (data:List B8) (lim:I .u64) (base unit:U) (lo hi:I .u64):I .u64×I .u64×I .i64 :=
 if I.neb (c5P data lo hi).2 (I.of .i64 0)=true then (I.of .u64 0,I.of .u64 0,(c5P data lo hi).2)
 else if U.top≤(c5P data lo hi).1.nat*unit.val then (I.of .u64 0,I.of .u64 0,I.of .i64 4)
 else if lim.nat<(c5P data lo hi).1.nat*unit.val / base.val then (I.of .u64 0,I.of .u64 0,I.of .i64 13)
 else ((c5P data lo hi).1,I.of .u64 (((c5P data lo hi).1.nat*unit.val / base.val:Nat):Int),I.of .i64 0)
def g5Y (lim ex po:I .u64):Nat:=min ex.nat (lim.nat-po.nat)
theorem h5Z {n:Nat} (h:n<18446744073709551616):(U.of n).1=I.of .u64 (n:Int):=by
 unfold U.of
 rw [Nat.mod_eq_of_lt h]
theorem e7R {a b:I .u64} (h:a.nat=b.nat):a=b:=by
 apply I.ext'
 rw [← a2G,← a2G,h]
theorem f2G (a b:I .u64) (h:b.nat≤a.nat):(I.sub a b).nat=a.nat-b.nat:=by
 have h1:=a2G a
 have h2:=a2G b
 have h3:=a2G (I.sub a b)
 rw [f6L (by omega)] at h3
 omega
theorem h2A (a b:I .u64):(I.mn a b).nat=min a.nat b.nat:=by
 have h1:=a2G a
 have h2:=a2G b
 unfold I.mn
 split<;>omega
def g3U (base icap:U) (e:Nat):Nat:=base.val*e-min icap.val base.val*e
def f6S (base icap:U) (bips:I .u64) (e:Nat):Nat:=g3U base icap e*bips.nat / 10000
def g2U (base icap tip:U) (bips:I .u64) (e used:Nat):Nat:=g3U base icap e-f6S base icap bips e+tip.val*used
def g9Y (c:CH) (base icap:U) (bips:I .u64):CH×I .i64 :=
 if U.top≤base.val*c.2.1.nat∨U.top≤base.val*c.2.2.1.nat∨U.top≤g2U base icap c.2.2.2.2.2.1 bips c.2.2.1.nat c.2.2.2.1.nat then (zCH,I.of .i64 4)
 else ((c.1,c.2.1,c.2.2.1,c.2.2.2.1,c.2.2.2.2.1,c.2.2.2.2.2.1,U.of (base.val*c.2.1.nat),U.of (min icap.val base.val*c.2.2.1.nat),U.of (g2U base icap c.2.2.2.2.2.1 bips c.2.2.1.nat c.2.2.2.1.nat),U.of (f6S base icap bips c.2.2.1.nat),()),I.of .i64 0)
end Sym

/- Audit: what a transaction took from its sender. -/
namespace Sym
open Go
theorem b4X {l:List Dg} {n k:Nat} (h:IsB l n) (hn:n<65536^k) (hk:k≤1000000):l.length≤1000000:=Nat.le_trans (h.len.2 hn) hk
end Sym

/- Pricer: what its functions compute. -/
namespace Sym
open Go
abbrev PrT:Type:=a6P
abbrev PrT.price (s:PrT):U:=s.1
abbrev PrT.units (s:PrT):I .u64:=s.2.1
abbrev PrT.last (s:PrT):I .u64:=s.2.2.1
abbrev PrT.reports (s:PrT):I .u64:=s.2.2.2.1
abbrev PrT.surplus (s:PrT):S:=s.2.2.2.2.1
abbrev PrT.posters (s:PrT):List Post:=s.2.2.2.2.2.1
abbrev RepT:Type:=b6E
abbrev g5L:Type:=d3X
def Prm.rpu (p:Prm):U:=p.2.2.2.2.2.2.2.1
noncomputable def g4L (l:List Post) (n:I .u64):Bool:=l.all fun p=>decide ((Post.since p).nat≤n.nat)
noncomputable def prV (s:PrT):Bool:=g4L s.posters s.reports&&(c8Y s.posters&&b0O s.surplus)
theorem prV_t {s:PrT}:prV s=true↔(∀ p∈s.posters,(Post.since p).nat≤s.reports.nat)∧TableOk s.posters∧b0O s.surplus=true:=by
 unfold prV g4L
 simp only [Bool.and_eq_true,List.all_eq_true,decide_eq_true_eq,tabB_t]
noncomputable def c5J (p:Post) (c w:U) (since:I .u64):Post :=
 (p.1,(U.of (p.due.val+(c.val+w.val)),(U.of (p.costs.val+c.val),(U.of (p.rewards.val+w.val),(p.paid,((if p.due.val=0∧0<p.due.val+(c.val+w.val) then since else p.since),()))))))
def e7H (p:Post) (c w:U):Prop:=p.due.val+(c.val+w.val)<U.top∧p.costs.val+c.val<U.top∧p.rewards.val+w.val<U.top
open Classical in
noncomputable def b9O (l:List Post) (a:I .u64) (c w:U) (since:I .u64):List Post×I .i64 :=
 if e7H (rdL dP l (atN l a)) c w then (setAt l (atN l a) (c5J (rdL dP l (atN l a)) c w since),I.of .i64 0) else ([],I.of .i64 4)
theorem f8R {n:Nat}:I.neb (c9B n).2 (I.of .i64 0)=decide (¬ n<U.top):=by
 by_cases h:n<U.top
 ·
  rw [d0C h,decide_eq_false (by simpa using h)]; rfl
 ·
  rw [e1A (by omega),decide_eq_true h]; rfl
end Sym

/- Pricer: a report. -/
namespace Sym
open Go
abbrev RepT.from' (r:RepT):I .u64:=r.1
abbrev RepT.upto (r:RepT):I .u64:=r.2.1
abbrev RepT.cost (r:RepT):U:=r.2.2.1
abbrev c9O:Nat:=340282366920938463463374607431768211456
noncomputable def c9C (s:PrT) (p:Prm) (r:RepT) (now:I .u64):I .i64 :=
 if prV s=true then
  if a8M p=true then
   if atN s.posters r.from'<s.posters.length then
    if s.last.nat≤r.upto.nat∧r.upto.nat≤now.nat then
     if r.cost.val<c9O then
      if s.reports.nat=18446744073709551615 then I.of .i64 4 else I.of .i64 0
     else I.of .i64 2
    else I.of .i64 14
   else I.of .i64 8
  else I.of .i64 15
 else I.of .i64 2
theorem g8H {n k:Nat} (h:Bits n k) (hk:k≤256):I.ltb (I.of .i64 128) (i6 k)=decide (¬ n<c9O):=by
 have e:I.of .i64 128=i6 128:=rfl
 rw [e,a2L (by omega) (by omega)]
 have:=h 128
 have e2:(2:Nat)^128=c9O:=by decide
 rw [e2] at this
 by_cases hc:n<c9O
 ·
  rw [decide_eq_false (by omega),decide_eq_false (by simpa using hc)]
 ·
  rw [decide_eq_true (by omega),decide_eq_true hc]
noncomputable abbrev zPr:PrT:=(Z_U,((I.of .u64 0),((I.of .u64 0),((I.of .u64 0),(a2T,([],()))))))
noncomputable abbrev g9F:g5L:=(I.of .u64 0,(Z_U,([],())))
def c8K (s:PrT) (r:RepT) (now:I .u64):Nat:=c0C s.units s.last r.upto now
noncomputable def c8N (pool:U) (l:List Post) (pay:List Pay):S:=S.of (((pool.val-b3C (pay.map amt):Nat):Int)-(b3C (l.map c0J):Int))
open Classical in
noncomputable def c9W (s:PrT) (p:Prm) (pool:U) (t:g5L):PrT×I .i64 :=
 if b3C (s.posters.map c0J)<U.top then
  if t.1.nat=0 then (s,I.of .i64 0)
  else if I.neb (c5L s.price (c8N pool s.posters t.2.2.1) s.surplus t.1 p).2 (I.of .i64 0)=true then (zPr,(c5L s.price (c8N pool s.posters t.2.2.1) s.surplus t.1 p).2)
  else (((c5L s.price (c8N pool s.posters t.2.2.1) s.surplus t.1 p).1,(s.units,(s.last,(s.reports,(c8N pool s.posters t.2.2.1,(s.posters,())))))),I.of .i64 0)
 else (zPr,I.of .i64 4)
end Sym

/- Pricer: a report as a whole. -/
namespace Sym
open Go
theorem e0F {l:List Post} {a:I .u64} {c w:U} {since:I .u64} (hT:TableOk l) (hf:atN l a<l.length) (hs:since.nat≠0) :
  ((b9O l a c w since).2=I.of .i64 4∧(b9O l a c w since).1=[]) ∨
  ((b9O l a c w since).2=I.of .i64 0∧e7H (rdL dP l (atN l a)) c w∧(b9O l a c w since).1=setAt l (atN l a) (c5J (rdL dP l (atN l a)) c w since)∧TableOk (b9O l a c w since).1):=by
 unfold b9O
 split
 ·
  rename_i h
  refine .inr ⟨rfl,h,rfl,?_⟩
  have hv:=a2G since
  refine g3X hT hf ?_ rfl
  refine f3S (hT.2 _ hf).1 c w since (by omega) h.1 h.2.1 h.2.2 _ ?_
  by_cases hd:(Post.due (rdL dP l (atN l a))).val=0∧0<(Post.due (rdL dP l (atN l a))).val+(c.val+w.val)
  ·
   rw [if_pos hd]; exact .inl ⟨rfl,hd.1,hd.2⟩
  ·
   rw [if_neg hd]; exact .inr ⟨rfl,hd⟩
 ·
  exact .inl ⟨rfl,rfl⟩
noncomputable def b6A (s:PrT) (p:Prm) (r:RepT) (now:I .u64):List Post×I .i64:=b9O s.posters r.from' r.cost (U.of (p.rpu.val*c8K s r now)) (I.add s.reports (I.of .u64 1))
noncomputable def a2H (l:List Post) (pool:U):List Pay:=b3T (ord l) pool.val
noncomputable def c4O (s:PrT) (l:List Post):PrT:=(s.price,(s.units,(s.last,(I.add s.reports (I.of .u64 1),(s.surplus,(l,()))))))
noncomputable def c1V (s:PrT) (p:Prm) (r:RepT) (now:I .u64) (pay:List Pay):g5L:=(I.of .u64 (c8K s r now:Int),(U.of (p.rpu.val*c8K s r now),(pay,())))
noncomputable def h2E (s:PrT) (n:Nat) (r:RepT) (q:PrT):PrT:=(q.1,(I.sub q.2.1 (I.of .u64 (n:Int)),(r.upto,q.2.2.2)))
noncomputable def b4P (s:PrT) (p:Prm) (pool:U) (r:RepT) (now:I .u64):PrT×g5L×I .i64 :=
 if (c9C s p r now).val=0 then
  if p.rpu.val*c8K s r now<U.top then
   if (b6A s p r now).2.val=0 then
    if (a3L (b6A s p r now).1 (a2H (b6A s p r now).1 pool)).2.val=0 then
     if (c9W (c4O s (a3L (b6A s p r now).1 (a2H (b6A s p r now).1 pool)).1) p pool (c1V s p r now (a2H (b6A s p r now).1 pool))).2.val=0 then
      (h2E s (c8K s r now) r (c9W (c4O s (a3L (b6A s p r now).1 (a2H (b6A s p r now).1 pool)).1) p pool (c1V s p r now (a2H (b6A s p r now).1 pool))).1,c1V s p r now (a2H (b6A s p r now).1 pool),I.of .i64 0)
     else (zPr,g9F,I.of .i64 4)
    else (zPr,g9F,I.of .i64 4)
   else (zPr,g9F,I.of .i64 4)
  else (zPr,g9F,I.of .i64 4)
 else (zPr,g9F,c9C s p r now)
structure Chk (s:PrT) (p:Prm) (r:RepT) (now:I .u64):Prop where
 since:∀ q∈s.posters,(Post.since q).nat≤s.reports.nat
 tab:TableOk s.posters
 sur:b0O s.surplus=true
 par:a8M p=true
 fnd:atN s.posters r.from'<s.posters.length
 lo:s.last.nat≤r.upto.nat
 hi:r.upto.nat≤now.nat
 cost:r.cost.val<c9O
 cnt:s.reports.nat<18446744073709551615
theorem d8X {s:PrT} {p:Prm} {r:RepT} {now:I .u64} (h:(c9C s p r now).val=0):Chk s p r now:=by
 unfold c9C at h
 split at h
 ·
  rename_i h1
  split at h
  ·
   rename_i h2
   split at h
   ·
    rename_i h3
    split at h
    ·
     rename_i h4
     split at h
     ·
      rename_i h5
      split at h
      ·
       exact absurd h (by decide)
      ·
       rename_i h6
       have ⟨a,b,c⟩:=prV_t.1 h1
       have:=a3A s.reports
       exact ⟨a,b,c,h2,h3,h4.1,h4.2,h5,by omega⟩
     ·
      exact absurd h (by decide)
    ·
     exact absurd h (by decide)
   ·
    exact absurd h (by decide)
  ·
   exact absurd h (by decide)
 ·
  exact absurd h (by decide)
theorem e4W {s:PrT} {p:Prm} {r:RepT} {now:I .u64} (h:Chk s p r now):(I.add s.reports (I.of .u64 1)).nat=s.reports.nat+1:=by
 have:=h.cnt
 have:=a2G s.reports
 have h1:(I.of .u64 1).val=1:=rfl
 have:=f6D (a:=s.reports) (b:=I.of .u64 1) (by omega)
 have:=a2G (I.add s.reports (I.of .u64 1))
 omega
theorem d9Q (l:List Post) (pool:U):(a2H l pool).length≤l.length:=Nat.le_trans (e4X _ _) (g5D l)
theorem f2H (l:List Post) (pool:U):b3C ((a2H l pool).map amt)=min pool.val (b3C (l.map c0J)):=by
 unfold a2H
 rw [e9C (ord l) pool.val pool.lt,g7G]
theorem e4J {l:List Post} (hT:TableOk l) (pool:U) :
  (a3L l (a2H l pool)).2=I.of .i64 4∨((a3L l (a2H l pool)).2=I.of .i64 0∧TableOk (a3L l (a2H l pool)).1∧(a3L l (a2H l pool)).1.length=l.length ∧
   (∀ i,Post.addr (rdL dP (a3L l (a2H l pool)).1 i)=Post.addr (rdL dP l i))∧b3C ((a3L l (a2H l pool)).1.map c0J)+b3C ((a2H l pool).map amt)=b3C (l.map c0J)):=by
 rcases d9N (ord l) pool.val l pool.lt hT (fun p hp=>g8J hp) (f6W hT) with h | ⟨h1,h2,h3,h4,h5,_,_⟩
 ·
  exact .inl h
 ·
  exact .inr ⟨h1,h2,h3,h4,h5⟩
theorem b9R:(I.of .i64 4).val≠0:=by decide
end Sym

/- Pricer: posters and units added. -/
namespace Sym
open Go
noncomputable def g9H (a:I .u64):Post:=(a,(Z_U,(Z_U,(Z_U,(Z_U,((I.of .u64 0),()))))))
noncomputable def f1D:List Post→I .u64→List Post
 | [],a=>[g9H a]
 | p::r,a=>if (Post.addr p).nat<a.nat then p::f1D r a else g9H a::p::r
theorem f7T {l:List Post} {a:I .u64} {i:Nat} (hi:i<l.length) (h:(Post.addr (rdL dP l i)).nat<a.nat):f1D (l.drop i) a=rdL dP l i::f1D (l.drop (i+1)) a:=by
 rw [List.drop_eq_getElem_cons hi,← a3Y dP l i hi]
 exact if_pos h
theorem f7E {l:List Post} {a:I .u64} {i:Nat} (hi:i<l.length) (h:¬ (Post.addr (rdL dP l i)).nat<a.nat):f1D (l.drop i) a=g9H a::l.drop i:=by
 rw [List.drop_eq_getElem_cons hi,← a3Y dP l i hi]
 exact if_neg h
theorem f0C:∀ (l:List Post) (a:I .u64),(f1D l a).length=l.length+1
 | [],a=>rfl
 | p::r,a=>by
  unfold f1D
  split
  ·
   simp [f0C r a]
  ·
   rfl
open Classical in
noncomputable def d7X (l:List Post) (a:I .u64):List Post×I .i64 :=
 if c8Y l=true∧a.nat≠0 then
  if atN l a<l.length then ([],I.of .i64 9)
  else if l.length=64 then ([],I.of .i64 7) else (f1D l a,I.of .i64 0)
 else ([],I.of .i64 2)
theorem g5H {l:List Post} {a:I .u64} (hl:l.length≤1073741824):I.leb (I.of .i64 0) (atI l a)=decide (atN l a<l.length):=by
 have:=e1L (l:=l) (a:=a) hl
 by_cases h:atN l a<l.length
 ·
  rw [decide_eq_false (by simpa using h)] at this
  rw [decide_eq_true h]
  exact iff_leb.2 (niff_ltb.1 this)
 ·
  rw [decide_eq_true h] at this
  rw [decide_eq_false h]
  exact niff_leb.2 (iff_ltb.1 this)
open Classical in
noncomputable def a9R (s:PrT) (a:I .u64):PrT×I .i64 :=
 if prV s=true then
  if (d7X s.posters a).2.val=0 then ((s.price,(s.units,(s.last,(s.reports,(s.surplus,((d7X s.posters a).1,())))))),I.of .i64 0)
  else (zPr,(d7X s.posters a).2)
 else (zPr,I.of .i64 2)
noncomputable def a8N (s:PrT) (n:I .u64):PrT×I .i64 :=
 if prV s=true then
  if s.units.nat+n.nat<18446744073709551616 then ((s.price,(I.of .u64 ((s.units.nat+n.nat:Nat):Int),s.2.2)),I.of .i64 0)
  else (zPr,I.of .i64 4)
 else (zPr,I.of .i64 2)
end Sym

/- Pricer: what an accepted report has done. -/
namespace Sym
open Go
noncomputable def b1Z (s:PrT) (p:Prm) (r:RepT) (now:I .u64):List Post :=
 setAt s.posters (atN s.posters r.from') (c5J (rdL dP s.posters (atN s.posters r.from')) r.cost (U.of (p.rpu.val*c8K s r now)) (I.add s.reports (I.of .u64 1)))
structure RepOk (s:PrT) (p:Prm) (pool:U) (r:RepT) (now:I .u64) (x:PrT) (t:g5L):Prop where
 chk:Chk s p r now
 w:p.rpu.val*c8K s r now<U.top
 fits:e7H (rdL dP s.posters (atN s.posters r.from')) r.cost (U.of (p.rpu.val*c8K s r now))
 tab1:TableOk (b1Z s p r now)
 ap:(a3L (b1Z s p r now) (a2H (b1Z s p r now) pool)).2.val=0
 tab2:TableOk x.posters
 len:x.posters.length=s.posters.length
 addr:∀ i,Post.addr (rdL dP x.posters i)=Post.addr (rdL dP s.posters i)
 posters:x.posters=(a3L (b1Z s p r now) (a2H (b1Z s p r now) pool)).1
 due:b3C (x.posters.map c0J)+b3C ((a2H (b1Z s p r now) pool).map amt)=b3C ((b1Z s p r now).map c0J)
 total:b3C (x.posters.map c0J)<U.top
 units:x.units=I.sub s.units (I.of .u64 (c8K s r now:Int))
 last:x.last=r.upto
 reports:x.reports=I.add s.reports (I.of .u64 1)
 surplus:x.surplus=(if c8K s r now=0 then s.surplus else c8N pool x.posters (a2H (b1Z s p r now) pool))
 price:x.price=(if c8K s r now=0 then s.price else (c5L s.price (c8N pool x.posters (a2H (b1Z s p r now) pool)) s.surplus (I.of .u64 (c8K s r now:Int)) p).1)
 out:t=c1V s p r now (a2H (b1Z s p r now) pool)
theorem e6J {s:PrT} {p:Prm} {r:RepT} {now:I .u64} (h:Chk s p r now):c8K s r now≤s.units.nat∧(I.of .u64 (c8K s r now:Int)).nat=c8K s r now:=by
 have h1:=d5E (units:=s.units) h.lo h.hi
 have h2:=a3A s.units
 exact ⟨h1,b7N (by unfold c8K; omega)⟩
theorem h1T {s:PrT} {p:Prm} {pool:U} {r:RepT} {now:I .u64} (h:(b4P s p pool r now).2.2.val=0):RepOk s p pool r now (b4P s p pool r now).1 (b4P s p pool r now).2.1:=by
 unfold b4P at h ⊢
 by_cases h0:(c9C s p r now).val=0
 case neg=>rw [if_neg h0] at h; exact absurd h h0
 rw [if_pos h0] at h ⊢
 have hC:=d8X h0
 by_cases hw:p.rpu.val*c8K s r now<U.top
 case neg=>rw [if_neg hw] at h; exact absurd h b9R
 rw [if_pos hw] at h ⊢
 have hcnt:=e4W hC
 have ⟨hn1,hn2⟩:=e6J hC
 have hA:=e0F (c:=r.cost) (w:=U.of (p.rpu.val*c8K s r now)) (since:=I.add s.reports (I.of .u64 1)) hC.tab hC.fnd (by rw [hcnt]; omega)
 rw [show b9O s.posters r.from' r.cost (U.of (p.rpu.val*c8K s r now)) (I.add s.reports (I.of .u64 1))=b6A s p r now from rfl] at hA
 rcases hA with ⟨hA,_⟩ | ⟨hA,hfit,hl1,hT⟩
 ·
  rw [if_neg (by rw [hA]; exact b9R)] at h; exact absurd h b9R
 rw [if_pos (by rw [hA]; rfl)] at h ⊢
 have hl1:(b6A s p r now).1=b1Z s p r now:=hl1
 rw [hl1] at h ⊢
 rw [hl1] at hT
 rcases e4J hT pool with hB | ⟨hB,hT2,hlen,hadr,hdue⟩
 ·
  rw [if_neg (by rw [hB]; exact b9R)] at h; exact absurd h b9R
 have hB0:(a3L (b1Z s p r now) (a2H (b1Z s p r now) pool)).2.val=0:=by rw [hB]; rfl
 rw [if_pos hB0] at h ⊢
 have hl0:(b1Z s p r now).length=s.posters.length:=by unfold b1Z; rw [a7K,List.length_set]
 have ha0:∀ i,Post.addr (rdL dP (b1Z s p r now) i)=Post.addr (rdL dP s.posters i):=by
  intro i
  unfold b1Z
  rw [c4X]
  split
  ·
   rename_i e; rw [e.1]; rfl
  ·
   rfl
 by_cases hD:(c9W (c4O s (a3L (b1Z s p r now) (a2H (b1Z s p r now) pool)).1) p pool (c1V s p r now (a2H (b1Z s p r now) pool))).2.val=0
 case neg=>rw [if_neg hD] at h; exact absurd h b9R
 rw [if_pos hD] at h ⊢
 have key:b3C ((a3L (b1Z s p r now) (a2H (b1Z s p r now) pool)).1.map c0J)<U.top ∧
   (c9W (c4O s (a3L (b1Z s p r now) (a2H (b1Z s p r now) pool)).1) p pool (c1V s p r now (a2H (b1Z s p r now) pool))).1 =
    ((if c8K s r now=0 then s.price else (c5L s.price (c8N pool (a3L (b1Z s p r now) (a2H (b1Z s p r now) pool)).1 (a2H (b1Z s p r now) pool)) s.surplus (I.of .u64 (c8K s r now:Int)) p).1),
     (s.units,(s.last,(I.add s.reports (I.of .u64 1),((if c8K s r now=0 then s.surplus else c8N pool (a3L (b1Z s p r now) (a2H (b1Z s p r now) pool)).1 (a2H (b1Z s p r now) pool)),((a3L (b1Z s p r now) (a2H (b1Z s p r now) pool)).1,())))))):=by
  unfold c9W at hD ⊢
  have e1:(c4O s (a3L (b1Z s p r now) (a2H (b1Z s p r now) pool)).1).posters=(a3L (b1Z s p r now) (a2H (b1Z s p r now) pool)).1:=rfl
  have e2:(c1V s p r now (a2H (b1Z s p r now) pool)).1.nat=c8K s r now:=hn2
  rw [e1] at hD ⊢
  split at hD
  ·
   rename_i hs
   refine ⟨hs,?_⟩
   rw [if_pos hs]
   rw [e2] at hD ⊢
   split at hD
   ·
    rename_i hz
    rw [if_pos hz,if_pos hz,if_pos hz]
    rfl
   ·
    rename_i hz
    rw [if_neg hz,if_neg hz,if_neg hz]
    split at hD
    ·
     rename_i hN
     exact absurd hD (iff_neb.1 hN)
    ·
     rename_i hN
     rw [if_neg hN]
     rfl
  ·
   exact absurd hD b9R
 rw [key.2]
 exact ⟨hC,hw,hfit,hT,hB0,hT2,hlen.trans hl0,fun i=>(hadr i).trans (ha0 i),rfl,hdue,key.1,rfl,rfl,rfl,rfl,rfl,rfl⟩
end Sym

/- Pricer: the reference's parts. -/
namespace Sym
open Go
theorem g0N {n i:Nat}:n%2^(i+1)=n%2^i+2^i*(n / 2^i%2):=by
 rw [Nat.pow_succ,Nat.mod_mul]
theorem Bits.top {m i:Nat} (h1:2^i≤m) (h2:m<2^(i+1)):Bits m (i+1):=by
 intro k
 constructor
 ·
  intro h; exact Nat.lt_of_lt_of_le h2 (Nat.pow_le_pow_right (by decide) h)
 ·
  intro h
  refine Classical.byContradiction fun hk=>?_
  have:2^k≤2^i:=Nat.pow_le_pow_right (by decide) (by omega)
  omega
theorem f1X (a:U):∃ y,b2Q K0 ((a,()),())=some y∧∃ k,y=((i6 k,()),())∧Bits a.val k∧k≤256:=by
 refine Wp.out (T:=fun o=>∃ y,o=some y∧∃ k,y=((i6 k,()),())∧Bits a.val k∧k≤256) ?_
 unfold b2Q
 have e256:I.of .i64 256=i6 256:=rfl
 have e64:I.of .i64 64=i6 64:=rfl
 simp only [c2H,b5U,e256,e64]
 refine Wp.iter (fun s=>∃ i n,s=((i6 n,(i6 i,())),(a,()))∧i≤256∧n≤i∧Bits (a.val%2^i) n) (fun s=>256-s.1.2.1.val.toNat) ?_ ⟨0,0,rfl,by omega,by omega,by rw [Nat.pow_zero,Nat.mod_one]; exact Bits.zero⟩ (by rw [a6Z]; show 256-_<_; omega)
 rintro s ⟨i,n,rfl,hi,hn,hB⟩
 simp only [a2L (show i<9223372036854775808 by omega) (show 256<9223372036854775808 by omega),a2K (show i+1<9223372036854775808 by omega)]
 refine Wp.brn (fun hc=>?_) (fun hc=>?_)
 ·
  have hc:=of_decide_eq_true hc
  have hm:256-(i6 (i+1)).val.toNat<256-(i6 i).val.toNat:=by rw [a0Q (by omega),a0Q (by omega)]; omega
  have hq:I.quo (i6 i) (i6 64)=i6 (i / 64):=by
   apply I.ext'
   rw [c1Q (by rw [a0Q (by omega)]; omega) (by rw [a0Q (by omega)]; omega),a0Q (by omega),a0Q (by omega),a0Q (by omega)]
   omega
  have hr:I.rem (i6 i) (i6 64)=i6 (i%64):=by
   apply I.ext'
   rw [b9N (by rw [a0Q (by omega)]; omega) (by rw [a0Q (by omega)]; omega),a0Q (by omega),a0Q (by omega),a0Q (by omega)]
   omega
  have hcv:(I.conv (k:=.i64) .u64 (i6 (i%64))).val=((i%64:Nat):Int):=by
   show (I.of .u64 (i6 (i%64)).val).val=_
   rw [a0Q (by omega),b8W (by omega)]
  have hcn:(I.conv (k:=.i64) .u64 (i6 (i%64))).nat=i%64:=by
   have:=a2G (I.conv (k:=.i64) .u64 (i6 (i%64)))
   omega
  simp only [hq,hr,a3J (show i / 64<9223372036854775808 by omega)]
  refine Wp.brnT (a3H (by omega) (by omega)) (Wp.brnT (iff_nn.2 (by rw [hcv]; omega)) ?_)
  have hsh:(I.shr (Arr.sel (I.of .u64 0) 4 a (i / 64)) (I.conv (k:=.i64) .u64 (i6 (i%64)))).nat=limb' a (i / 64) / 2^(i%64):=by
   have h:=g4Z (Arr.sel (I.of .u64 0) 4 a (i / 64)) (I.conv (k:=.i64) .u64 (i6 (i%64))) (by rw [hcn]; omega)
   rw [hcn] at h
   exact h
  have hb:(I.and (I.shr (Arr.sel (I.of .u64 0) 4 a (i / 64)) (I.conv (k:=.i64) .u64 (i6 (i%64)))) (I.of .u64 1)).nat=a.val / 2^i%2:=by
   rw [g8Q _ 1 _ (by decide) (by rfl),hsh,g9M a i (by omega)]
  have hs:=g0N (n:=a.val) (i:=i)
  have hlt:a.val%2^i<2^i:=Nat.mod_lt _ (Nat.pow_pos (by decide))
  rw [d4T,hb,show (I.of .u64 1).nat=1 from rfl]
  refine Wp.brn (fun h=>?_) (fun h=>?_)
  ·
   have h:=of_decide_eq_true h
   rw [h,Nat.mul_one] at hs
   refine Wp.again ⟨i+1,i+1,rfl,by omega,by omega,?_⟩ hm
   exact Bits.top (by rw [hs]; omega) (by rw [hs,Nat.pow_succ]; omega)
  ·
   have h:=of_decide_eq_false h
   have h0:a.val / 2^i%2=0:=by omega
   rw [h0,Nat.mul_zero,Nat.add_zero] at hs
   exact Wp.again ⟨i+1,n,rfl,by omega,by omega,by rw [hs]; exact hB⟩ hm
 ·
  have hc:=of_decide_eq_false hc
  have hi':i=256:=by omega
  subst hi'
  have ha:=a.lt
  rw [g7B] at ha
  rw [Nat.mod_eq_of_lt ha] at hB
  exact Wp.done ⟨_,rfl,n,rfl,hB,hn⟩
theorem f2M (a b:U):b2Y K0 ((a,(b,())),())=some (((c9B (a.val*b.val)).1,((c9B (a.val*b.val)).2,())),()):=by
 refine Wp.out (T:=fun o=>o=_) ?_
 unfold b2Y
 refine Wp.call (b3F a) ?_
 rintro _ ⟨x,rfl,hx⟩
 refine Wp.call (b3F b) ?_
 rintro _ ⟨y,rfl,hy⟩
 obtain ⟨z,hz,hz2⟩:=b3I hx hy (c3N hx) (c3N hy)
 refine Wp.optF hz (Wp.optF (Checked_ok' hz2 ?_) rfl)
 refine b0A hz2 64 ?_ (by decide)
 have h1:=a.lt
 have h2:=b.lt
 have h3:a.val*b.val<U.top*U.top:=Nat.mul_lt_mul_of_lt_of_le h1 (Nat.le_of_lt h2) (by decide)
 exact Nat.lt_trans h3 (by decide)
theorem f5F (units last upto now:I .u64) (h1:last.nat≤upto.nat) (h2:upto.nat≤now.nat) :
  a9U K0 ((units,(last,(upto,(now,())))),())=some ((I.of .u64 (c0C units last upto now:Int),(I.of .i64 0,())),()):=by
 have hle:=d5E (units:=units) h1 h2
 have hu:=a3A units
 refine Wp.out (T:=fun o=>o=_) ?_
 unfold a9U
 refine Wp.jnI ?_
 simp only [c5K]
 refine Wp.brnF (decide_eq_false (by omega)) (Wp.brnF (decide_eq_false (by omega)) ?_)
 simp only [d4T]
 refine Wp.brn (fun h=>?_) (fun h=>?_)
 ·
  have h:=of_decide_eq_true h
  have:I.of .u64 (c0C units last upto now:Int)=units:=by
   unfold c0C
   rw [if_pos h,a2G]
   exact I.ext' units.ok
  rw [this]
  rfl
 ·
  have h:=of_decide_eq_false h
  have d1:=sub_nat_le' upto last h1
  have d2:=sub_nat_le' now last (by omega)
  obtain ⟨x,gx,hx⟩:=a1N units
  obtain ⟨y,gy,hy⟩:=a1N (I.sub upto last)
  obtain ⟨z,gz,hz⟩:=a1N (I.sub now last)
  obtain ⟨m,gm,hm⟩:=b3I hx hy (Nat.le_trans (e7P hx) (by decide)) (Nat.le_trans (e7P hy) (by decide))
  have hml:m.length≤1000000:=by
   refine b0A hm 64 ?_ (by decide)
   have:=a3A (I.sub upto last)
   exact Nat.lt_trans (Nat.mul_lt_mul_of_lt_of_le hu (Nat.le_of_lt this) (by decide)) (by decide)
  obtain ⟨q,r,gq,hq,_⟩:=c7V hm hz (by omega) hml (Nat.le_trans (e7P hz) (by decide))
  have e:c0C units last upto now=units.nat*(upto.nat-last.nat) / (now.nat-last.nat):=if_neg h
  rw [d1,d2,← e] at hq
  refine Wp.optF gx (Wp.optF gy (Wp.optF gm (Wp.optF gz (Wp.optF gq (Wp.optF (a3C hq (Nat.lt_trans (Nat.lt_of_le_of_lt hle hu) (by decide))) ?_)))))
  show some (((U.of (c0C units last upto now)).1,(I.of .i64 0,())),())=_
  rw [f6N (by omega)]
theorem e3V {l:List Post} (hl:l.length≤1073741824) (hT:TableOk l):b0E K0 ((l,()),())=some (((c9B (b3C (l.map c0J))).1,((c9B (b3C (l.map c0J))).2,())),()):=by
 refine Wp.out (T:=fun o=>o=_) ?_
 unfold b0E
 simp only [a8H,a5Y,c2H,b5U]
 refine Wp.optF (c4M hl) (Wp.brnF (f7D hT) ?_)
 have h64:=hT.1
 have hb:∀ i,b3C ((l.take i).map c0J)≤64*U.top:=fun i=>by
  have h1:=d2F c0J U.top (fun p=>U.lt _) (l.take i)
  have h2:(l.take i).length*U.top≤64*U.top:=Nat.mul_le_mul_right _ (by rw [List.length_take]; omega)
  omega
 have hbig:64*U.top<65536^64:=by decide
 refine Wp.iter (fun s=>∃ i b,s=((l,(b,(i6 i,()))),(Z_U,()))∧i≤l.length∧IsB b (b3C ((l.take i).map c0J))) (fun s=>l.length-s.1.2.2.1.val.toNat) ?_ ⟨0,[],rfl,by omega,d6T⟩ (by rw [a6Z]; show l.length-_<_; omega)
 rintro s ⟨i,b,rfl,hi,hB⟩
 simp only [a2L (show i<9223372036854775808 by omega) (show l.length<9223372036854775808 by omega),a3J (show i<9223372036854775808 by omega),a2K (show i+1<9223372036854775808 by omega)]
 have hbl:b.length≤1000000:=b0A hB 64 (by have:=hb i; omega) (by decide)
 refine Wp.brn (fun hc=>?_) (fun hc=>?_)
 ·
  have hc:=of_decide_eq_true hc
  refine Wp.brnT (a3H (by omega) (by omega)) ?_
  refine Wp.call (b3F (Post.due (rdL dP l i))) ?_
  rintro _ ⟨x,rfl,hx⟩
  obtain ⟨z,gz,hz⟩:=b3H hB hx hbl (c3N hx)
  refine Wp.optF gz ?_
  exact Wp.again ⟨i+1,z,rfl,by omega,by rw [e3T dP c0J hc]; exact hz⟩ (by show l.length-(i6 (i+1)).val.toNat<l.length-(i6 i).val.toNat; rw [a0Q (by omega),a0Q (by omega)]; omega)
 ·
  have hc:=of_decide_eq_false hc
  rw [List.take_of_length_le (by omega)] at hB
  exact Wp.done (Wp.optF (Checked_ok' hB hbl) rfl)
end Sym

/- Pricer: the reference computes the same. -/
namespace Sym
open Go
theorem f1U (l:List Post) (a:I .u64) (c w:U) (since:I .u64) (h:TableOk l) (hf:atN l a<l.length) (hs:since.nat≠0) :
  b1E K0 ((l,(a,(c,(w,(since,()))))),())=some (((b9O l a c w since).1,((b9O l a c w since).2,())),()):=by
 refine Wp.out (T:=fun o=>o=_) ?_
 have hl:=h.1
 unfold b1E b9O
 refine Wp.jnI (Wp.optF (c4M (l:=l) (by omega)) (Wp.brnF (f7D h) (Wp.brnF (by rw [d4T]; exact decide_eq_false hs) ?_)))
 refine Wp.optF (d3Y (l:=l) a (by omega)) ?_
 have e:atI l a=i6 (atN l a):=if_pos hf
 rw [e]
 have hE:=(h.2 _ hf).1
 generalize atN l a=k at hf hE ⊢
 refine Wp.brnF (by rw [c2H,a2L (by omega) (by omega)]; exact decide_eq_false (by omega)) ?_
 have en:a2C ([]:List Post) l=l:=rfl
 simp only [a3J (show k<9223372036854775808 by omega),pw,d5Q,c4X,en]
 simp only [true_and,hf,if_true]
 have bi:inB (i6 k) l.length=true:=a3H hf (by omega)
 generalize rdL dP l k=p at *
 refine Wp.brnT (b3P (by show l.length≤_; omega)) (Wp.brnT bi ?_)
 refine Wp.call (b3F (Post.due p)) ?_
 rintro _ ⟨d1,rfl,b1⟩
 refine Wp.call (b3F c) ?_
 rintro _ ⟨d2,rfl,b2⟩
 refine Wp.call (b3F w) ?_
 rintro _ ⟨d3,rfl,b3⟩
 have t1:=U.lt (Post.due p)
 have t2:=c.lt
 have t3:=w.lt
 have t4:=U.lt (Post.costs p)
 have t5:=U.lt (Post.rewards p)
 have hp:U.top+U.top+U.top≤65536^17:=by decide
 obtain ⟨d4,g4,b4⟩:=b3H b2 b3 (c3N b2) (c3N b3)
 refine Wp.optF g4 ?_
 obtain ⟨d5,g5,b5⟩:=b3H b1 b4 (c3N b1) (b0A b4 17 (by omega) (by decide))
 refine Wp.optF g5 ?_
 refine Wp.call (b3F (Post.costs p)) ?_
 rintro _ ⟨d6,rfl,b6⟩
 refine Wp.call (b3F c) ?_
 rintro _ ⟨d7,rfl,b7⟩
 obtain ⟨d8,g8,b8⟩:=b3H b6 b7 (c3N b6) (c3N b7)
 refine Wp.optF g8 ?_
 refine Wp.call (b3F (Post.rewards p)) ?_
 rintro _ ⟨d9,rfl,b9⟩
 refine Wp.call (b3F w) ?_
 rintro _ ⟨d10,rfl,b10⟩
 obtain ⟨d11,g11,b11⟩:=b3H b9 b10 (c3N b9) (c3N b10)
 refine Wp.optF g11 ?_
 have l5:=b0A b5 17 (by omega) (by decide)
 have l8:=b0A b8 17 (by omega) (by decide)
 have l11:=b0A b11 17 (by omega) (by decide)
 refine Wp.optF (e4N b5 l5) ?_
 refine Wp.brn (fun f1=>?_) (fun f1=>?_)
 ·
  have f1:=of_decide_eq_false (b4H f1)
  rw [if_neg (fun hh=>f1 hh.1)]; rfl
 have f1:=of_decide_eq_true (b4I f1)
 refine Wp.optF (e4N b8 l8) ?_
 refine Wp.brn (fun f2=>?_) (fun f2=>?_)
 ·
  have f2:=of_decide_eq_false (b4H f2)
  rw [if_neg (fun hh=>f2 hh.2.1)]; rfl
 have f2:=of_decide_eq_true (b4I f2)
 refine Wp.optF (e4N b11 l11) ?_
 refine Wp.brn (fun f3=>?_) (fun f3=>?_)
 ·
  have f3:=of_decide_eq_false (b4H f3)
  rw [if_neg (fun hh=>f3 hh.2.2)]; rfl
 have f3:=of_decide_eq_true (b4I f3)
 rw [if_pos ⟨f1,f2,f3⟩]
 refine Wp.optF (d1V (Post.due p)) ?_
 have hpos:=g8V b5 l5
 refine Wp.brn (fun z=>?_) (fun z=>?_)
 ·
  have z:=of_decide_eq_true z
  refine Wp.brn (fun y=>?_) (fun y=>?_)
  ·
   have y:=of_decide_eq_true (hpos.symm.trans y)
   refine Wp.optF (a3C b5 f1) (Wp.optF (a3C b8 f2) (Wp.optF (a3C b11 f3) ?_))
   have e:c5J p c w since=(p.1,(U.of (p.due.val+(c.val+w.val)),(U.of (p.costs.val+c.val),(U.of (p.rewards.val+w.val),(p.paid,(since,())))))):=by unfold c5J; rw [if_pos ⟨z,y⟩]
   rw [e]; rfl
  ·
   have y:=of_decide_eq_false (hpos.symm.trans y)
   refine Wp.optF (a3C b5 f1) (Wp.optF (a3C b8 f2) (Wp.optF (a3C b11 f3) ?_))
   have e:c5J p c w since=(p.1,(U.of (p.due.val+(c.val+w.val)),(U.of (p.costs.val+c.val),(U.of (p.rewards.val+w.val),(p.paid,(p.since,())))))):=by unfold c5J; rw [if_neg (fun hh=>y hh.2)]
   rw [e]; rfl
 ·
  have z:=of_decide_eq_false z
  refine Wp.optF (a3C b5 f1) (Wp.optF (a3C b8 f2) (Wp.optF (a3C b11 f3) ?_))
  have e:c5J p c w since=(p.1,(U.of (p.due.val+(c.val+w.val)),(U.of (p.costs.val+c.val),(U.of (p.rewards.val+w.val),(p.paid,(p.since,())))))):=by unfold c5J; rw [if_neg (fun hh=>z hh.1)]
  rw [e]; rfl
theorem g3A (l:List Post) (a:I .u64) (hl:l.length≤1073741824):b5M K0 ((l,(a,())),())=some (((d7X l a).1,((d7X l a).2,())),()):=by
 refine Wp.out (T:=fun o=>o=_) ?_
 unfold b5M d7X
 refine Wp.jnI (Wp.optF (c4M hl) ?_)
 have e0:(I.of .u64 0).nat=0:=rfl
 refine Wp.brn (fun h=>?_) (fun h=>?_)
 ·
  have h:c8Y l=false:=b4H h
  simp only [if_neg (show ¬ (c8Y l=true∧a.nat≠0) by rw [h]; simp)]; rfl
 have hT:c8Y l=true:=b4I h
 rw [d4T,e0]
 refine Wp.brn (fun h=>?_) (fun h=>?_)
 ·
  have h:a.nat=0:=of_decide_eq_true h
  simp only [if_neg (show ¬ (c8Y l=true∧a.nat≠0) from fun hh=>hh.2 h)]; rfl
 have ha:a.nat≠0:=of_decide_eq_false h
 simp only [if_pos (show c8Y l=true∧a.nat≠0 from ⟨hT,ha⟩)]
 refine Wp.optF (d3Y (l:=l) a hl) ?_
 rw [show (((atI l a,()),()):((I .i64)×Unit)×Unit).1.1=atI l a from rfl,g5H hl]
 refine Wp.brn (fun h=>?_) (fun h=>?_)
 ·
  have h:=of_decide_eq_true h
  simp only [if_pos h]; rfl
 have hf:=of_decide_eq_false h
 simp only [if_neg hf]
 have hne:=f9P hf
 have hlim:l.length≤64:=(tabB_t.1 hT).1
 have e64:I.of .i64 64=i6 64:=rfl
 simp only [a8H,a5Y,c2H,b5U,e64,e5E (show 64<9223372036854775808 by omega) (show l.length<9223372036854775808 by omega)]
 refine Wp.brn (fun h=>?_) (fun h=>?_)
 ·
  have h:=of_decide_eq_true h
  simp only [if_pos (show l.length=64 by omega)]; rfl
 have h64:=of_decide_eq_false h
 simp only [if_neg (show ¬ l.length=64 by omega)]
 have hva:=a2G a
 refine Wp.iter (fun s=>∃ i put out,s=((l,(a,(put,(i6 i,())))),(out,()))∧i≤l.length∧out.length≤i+(if put=true then 1 else 0) ∧
   ((put=false∧out++f1D (l.drop i) a=f1D l a)∨(put=true∧out++l.drop i=f1D l a)))
  (fun s=>l.length-s.1.2.2.2.1.val.toNat) ?_ ⟨0,false,[],rfl,by omega,by simp,.inl ⟨rfl,rfl⟩⟩ (by rw [a6Z]; show l.length-_<_; omega)
 rintro s ⟨i,put,out,rfl,hi,hol0,hcase⟩
 have hol:out.length≤i+1:=by revert hol0; split<;>omega
 simp only [a2L (show i<9223372036854775808 by omega) (show l.length<9223372036854775808 by omega),a3J (show i<9223372036854775808 by omega)]
 refine Wp.brn (fun hc=>?_) (fun hc=>?_)
 ·
  have hc:=of_decide_eq_true hc
  have hm:l.length-(i6 (i+1)).val.toNat<l.length-(i6 i).val.toNat:=by rw [a0Q (by omega),a0Q (by omega)]; omega
  have bi:inB (i6 i) l.length=true:=a3H (by omega) (by omega)
  have hdr:l.drop i=rdL dP l i::l.drop (i+1):=by rw [List.drop_eq_getElem_cons hc,a3Y dP l i hc]
  have hvi:=a2G (Post.addr (rdL dP l i))
  have hnei:=hne i hc
  refine Wp.jnI ?_
  have place:put=false→a.nat<(Post.addr (rdL dP l i)).nat→out++g9H a::rdL dP l i::l.drop (i+1)=f1D l a:=by
   intro hp hlt
   rcases hcase with ⟨_,h⟩ | ⟨h,_⟩
   ·
    rw [f7E hc (by omega),hdr] at h; exact h
   ·
    rw [hp] at h; cases h
  have keep:put=false→¬ a.nat<(Post.addr (rdL dP l i)).nat→(out++[rdL dP l i])++f1D (l.drop (i+1)) a=f1D l a:=by
   intro hp hlt
   rcases hcase with ⟨_,h⟩ | ⟨h,_⟩
   ·
    rw [f7T hc (by omega)] at h; rw [← h]; simp
   ·
    rw [hp] at h; cases h
  have keep2:put=true→(out++[rdL dP l i])++l.drop (i+1)=f1D l a:=by
   intro hp
   rcases hcase with ⟨h,_⟩ | ⟨_,h⟩
   ·
    rw [hp] at h; cases h
   ·
    rw [hdr] at h; rw [← h]; simp
  have hfit:a1D (a0K (a2C out [rdL dP l i]))=true:=b3P (by show (out++[_]).length≤_; simp; omega)
  refine Wp.brn (fun hp=>?_) (fun hp=>?_)
  ·
   have hp:put=false:=b4H hp
   refine Wp.brnT bi ?_
   rw [c5K]
   simp only [a3J (show i<9223372036854775808 by omega),a2K (show i+1<9223372036854775808 by omega)]
   refine Wp.brn (fun hlt=>?_) (fun hlt=>?_)
   ·
    have hlt:a.nat<(Post.addr (rdL dP l i)).nat:=of_decide_eq_true hlt
    refine Wp.brnT (b3P (by show (out++[_]).length≤_; simp; omega)) (Wp.brnT bi (Wp.brnT (b3P (by show (out++[_]++[_]).length≤_; simp; omega)) ?_))
    refine Wp.again ⟨i+1,true,_,rfl,by omega,?_,.inr ⟨rfl,?_⟩⟩ hm
    ·
     rw [hp] at hol0
     simp [a2C] at hol0 ⊢
     omega
    ·
     rw [← place hp hlt]; simp [a2C,g9H]
   ·
    have hlt:¬ a.nat<(Post.addr (rdL dP l i)).nat:=of_decide_eq_false hlt
    exact Wp.brnT bi (Wp.brnT hfit (Wp.again ⟨i+1,put,_,rfl,by omega,by rw [hp] at hol0 ⊢; simp [a2C] at hol0 ⊢; omega,.inl ⟨hp,keep hp hlt⟩⟩ hm))
  ·
   have hp:put=true:=b4I hp
   simp only [a3J (show i<9223372036854775808 by omega),a2K (show i+1<9223372036854775808 by omega)]
   exact Wp.brnF rfl (Wp.brnT bi (Wp.brnT hfit (Wp.again ⟨i+1,put,_,rfl,by omega,by rw [hp] at hol0 ⊢; simp [a2C] at hol0 ⊢; omega,.inr ⟨hp,keep2 hp⟩⟩ hm)))
 ·
  have hc:=of_decide_eq_false hc
  have hi':i=l.length:=by omega
  subst hi'
  refine Wp.done ?_
  rcases hcase with ⟨rfl,h⟩ | ⟨rfl,h⟩
  ·
   rw [List.drop_length] at h
   refine Wp.brnT rfl (Wp.brnT (b3P (by show (out++[_]).length≤_; simp; omega)) ?_)
   show some ((out++[g9H a],(I.of .i64 0,())),())=_
   rw [← h]; rfl
  ·
   rw [List.drop_length,List.append_nil] at h
   refine Wp.brnF rfl ?_
   rw [h]; rfl
end Sym

/- Pricer: the reference's report. -/
namespace Sym
open Go
theorem c9Q (s:PrT) (hl:s.posters.length≤1073741824):a8F K0 ((s,()),())=some ((prV s,()),()):=by
 refine Wp.out (T:=fun o=>o=_) ?_
 unfold a8F
 refine Wp.jnI (Wp.optF (c4M (l:=s.posters) hl) ?_)
 refine Wp.brn (fun h=>?_) (fun h=>?_)
 ·
  have h:c8Y s.posters=false:=b4H h
  unfold prV; rw [h,Bool.false_and,Bool.and_false]; rfl
 have hT:c8Y s.posters=true:=b4I h
 refine Wp.optF (c0Z s.surplus) ?_
 refine Wp.brn (fun h=>?_) (fun h=>?_)
 ·
  have h:b0O s.surplus=false:=b4H h
  unfold prV; rw [h,Bool.and_false,Bool.and_false]; rfl
 have hS:b0O s.surplus=true:=b4I h
 simp only [a8H,a5Y,c2H,b5U]
 obtain ⟨l,hl'⟩:∃ l,l=s.posters:=⟨_,rfl⟩
 rw [← hl'] at hl
 refine Wp.iter (fun t=>∃ i,t=((i6 i,()),(s,()))∧i≤l.length∧∀ k,k<i→(Post.since (rdL dP l k)).nat≤s.reports.nat) (fun t=>l.length-t.1.1.val.toNat) ?_ ⟨0,rfl,by omega,by intro k hk; omega⟩ (by rw [a6Z]; show l.length-_<_; omega)
 rintro t ⟨i,rfl,hi,hinv⟩
 have e:s.2.2.2.2.2.1=l:=hl'.symm
 simp only [e,a2L (show i<9223372036854775808 by omega) (show l.length<9223372036854775808 by omega),a3J (show i<9223372036854775808 by omega),a2K (show i+1<9223372036854775808 by omega)]
 refine Wp.brn (fun hc=>?_) (fun hc=>?_)
 ·
  have hc:=of_decide_eq_true hc
  refine Wp.brnT (a3H (by omega) (by omega)) ?_
  simp only [c5K]
  refine Wp.brn (fun h=>?_) (fun h=>?_)
  ·
   have h:s.reports.nat<(Post.since (rdL dP l i)).nat:=of_decide_eq_true h
   refine Wp.done ?_
   have:prV s=false:=by
    cases hv:prV s with
    | false=>rfl
    | true =>
     have:=(prV_t.1 hv).1 (rdL dP l i) (by rw [← hl']; exact c3L dP _ i hc)
     omega
   rw [this]
   rfl
  ·
   have h:¬ s.reports.nat<(Post.since (rdL dP l i)).nat:=of_decide_eq_false h
   refine Wp.again ⟨i+1,rfl,by omega,fun k hk=>?_⟩ (by show l.length-(i6 (i+1)).val.toNat<l.length-(i6 i).val.toNat; rw [a0Q (by omega),a0Q (by omega)]; omega)
   by_cases hki:k=i
   ·
    subst hki; omega
   ·
    exact hinv k (by omega)
 ·
  have hc:=of_decide_eq_false hc
  refine Wp.done ?_
  have:prV s=true:=by
   refine prV_t.2 ⟨fun p hp=>?_,tabB_t.1 hT,hS⟩
   rw [← hl'] at hp
   obtain ⟨k,hk,rfl⟩:=c7O dP hp
   exact hinv k (by omega)
  rw [this]
  rfl
theorem e1D (s:PrT) (a:I .u64) (hl:s.posters.length≤1073741824):a9C K0 ((s,(a,())),())=some (((a9R s a).1,((a9R s a).2,())),()):=by
 refine Wp.out (T:=fun o=>o=_) ?_
 unfold a9C a9R
 refine Wp.optF (c9Q s hl) ?_
 refine Wp.brn (fun h=>?_) (fun h=>?_)
 ·
  have h:prV s=false:=b4H h
  rw [if_neg (by rw [h]; simp)]; rfl
 have h:prV s=true:=b4I h
 rw [if_pos h]
 refine Wp.optF (g3A s.posters a hl) ?_
 refine Wp.brn (fun h=>?_) (fun h=>?_)
 ·
  have h:¬ (d7X s.posters a).2.val=0:=iff_neb.1 h
  rw [if_neg h]; rfl
 ·
  have h:(d7X s.posters a).2.val=0:=niff_neb.1 h
  rw [if_pos h]; rfl
theorem d2G (a b:I .u64):I.add a b=I.of .u64 ((a.nat+b.nat:Nat):Int):=by
 unfold I.add
 rw [← a2G a,← a2G b]
 rfl
theorem e5Z (s:PrT) (n:I .u64) (hl:s.posters.length≤1073741824):b0B K0 ((s,(n,())),())=some (((a8N s n).1,((a8N s n).2,())),()):=by
 refine Wp.out (T:=fun o=>o=_) ?_
 unfold b0B a8N
 refine Wp.optF (c9Q s hl) ?_
 refine Wp.brn (fun h=>?_) (fun h=>?_)
 ·
  have h:prV s=false:=b4H h
  rw [if_neg (by rw [h]; simp)]; rfl
 have h:prV s=true:=b4I h
 rw [if_pos h]
 have hu:=a3A s.units
 have hn:=a3A n
 have hw:(I.add s.units n).nat=(s.units.nat+n.nat)%18446744073709551616:=by
  rw [d2G]
  have h1:(I.of .u64 ((s.units.nat+n.nat:Nat):Int)).val=((s.units.nat+n.nat:Nat):Int)%18446744073709551616:=rfl
  have:=a2G (I.of .u64 ((s.units.nat+n.nat:Nat):Int))
  omega
 refine Wp.brn (fun h=>?_) (fun h=>?_)
 ·
  rw [c5K] at h
  have h:(I.add s.units n).nat<n.nat:=of_decide_eq_true h
  rw [if_neg (by omega)]; rfl
 ·
  rw [c5K] at h
  have h:¬ (I.add s.units n).nat<n.nat:=of_decide_eq_false h
  rw [if_pos (by omega)]
  refine Wp.brnT (b3P hl) ?_
  rw [← d2G]
  rfl
noncomputable def c8Z (s:PrT) (p:Prm) (r:RepT) (now:I .u64):I .i64 :=
 if prV s=true then
  if a8M p=true then
   if atN s.posters r.from'<s.posters.length then
    if s.last.nat≤r.upto.nat∧r.upto.nat≤now.nat then
     if r.cost.val<c9O then I.of .i64 0
     else I.of .i64 2
    else I.of .i64 14
   else I.of .i64 8
  else I.of .i64 15
 else I.of .i64 2
theorem e8G (s:PrT) (p:Prm) (r:RepT) (now:I .u64) :
  ((c8Z s p r now).val=0∧((c9C s p r now).val=0∨(s.reports.nat=18446744073709551615∧c9C s p r now=I.of .i64 4)))∨((c8Z s p r now).val≠0∧c9C s p r now=c8Z s p r now):=by
 unfold c8Z c9C
 split
 ·
  split
  ·
   split
   ·
    split
    ·
     split
     ·
      left
      refine ⟨rfl,?_⟩
      split
      ·
       rename_i h; exact .inr ⟨h,rfl⟩
      ·
       exact .inl rfl
     ·
      exact .inr ⟨by decide,rfl⟩
    ·
     exact .inr ⟨by decide,rfl⟩
   ·
    exact .inr ⟨by decide,rfl⟩
  ·
   exact .inr ⟨by decide,rfl⟩
 ·
  exact .inr ⟨by decide,rfl⟩
theorem e4Q {s:PrT} {p:Prm} {r:RepT} {now:I .u64} (h:(c8Z s p r now).val=0):prV s=true∧a8M p=true∧atN s.posters r.from'<s.posters.length∧(s.last.nat≤r.upto.nat∧r.upto.nat≤now.nat)∧r.cost.val<c9O:=by
 unfold c8Z at h
 split at h
 ·
  rename_i h1
  split at h
  ·
   rename_i h2
   split at h
   ·
    rename_i h3
    split at h
    ·
     rename_i h4
     split at h
     ·
      rename_i h5; exact ⟨h1,h2,h3,h4,h5⟩
     ·
      exact absurd h (by decide)
    ·
     exact absurd h (by decide)
   ·
    exact absurd h (by decide)
  ·
   exact absurd h (by decide)
 ·
  exact absurd h (by decide)
theorem f7N (s:PrT) (p:Prm) (r:RepT) (now:I .u64) (hl:s.posters.length≤1073741824) :
  b2X K0 ((s,(p,(r,(now,())))),())=some ((c8Z s p r now,()),()):=by
 refine Wp.out (T:=fun o=>o=_) ?_
 unfold b2X c8Z
 refine Wp.optF (c9Q s hl) ?_
 refine Wp.brn (fun h=>?_) (fun h=>?_)
 ·
  have h:prV s=false:=b4H h
  rw [if_neg (by rw [h]; simp)]; rfl
 have h:prV s=true:=b4I h
 rw [if_pos h]
 refine Wp.optF (b8B p) ?_
 refine Wp.brn (fun h=>?_) (fun h=>?_)
 ·
  have h:a8M p=false:=b4H h
  rw [if_neg (by rw [h]; simp)]; rfl
 have h:a8M p=true:=b4I h
 rw [if_pos h]
 refine Wp.optF (d3Y (l:=s.posters) r.from' hl) ?_
 rw [show (((atI s.posters r.from',()),()):((I .i64)×Unit)×Unit).1.1=atI s.posters r.from' from rfl,e1L hl]
 refine Wp.brn (fun h=>?_) (fun h=>?_)
 ·
  rw [if_neg (of_decide_eq_true h)]; rfl
 rw [if_pos (by simpa using of_decide_eq_false h)]
 refine Wp.jnI ?_
 simp only [c5K]
 refine Wp.brn (fun h=>?_) (fun h=>?_)
 ·
  have h:r.upto.nat<s.last.nat:=of_decide_eq_true h
  rw [if_neg (by omega)]; rfl
 have h1:¬ r.upto.nat<s.last.nat:=of_decide_eq_false h
 refine Wp.brn (fun h=>?_) (fun h=>?_)
 ·
  have h:now.nat<r.upto.nat:=of_decide_eq_true h
  rw [if_neg (by omega)]; rfl
 have h2:¬ now.nat<r.upto.nat:=of_decide_eq_false h
 rw [if_pos (by omega)]
 refine Wp.call (f1X r.cost) ?_
 rintro _ ⟨k,rfl,hB,hk⟩
 rw [show (((i6 k,()),()):((I .i64)×Unit)×Unit).1.1=i6 k from rfl,g8H hB hk]
 refine Wp.brn (fun h=>?_) (fun h=>?_)
 ·
  rw [if_neg (of_decide_eq_true h)]; rfl
 rw [if_pos (Classical.byContradiction (of_decide_eq_false h))]
 rfl
theorem f3I (s:PrT) (p:Prm) (pool:U) (r:RepT) (now:I .u64) (hl:s.posters.length≤1073741824) :
  b1G K0 ((s,(p,(pool,(r,(now,()))))),())=some (((b4P s p pool r now).1,((b4P s p pool r now).2.1,((b4P s p pool r now).2.2,()))),()):=by
 refine Wp.out (T:=fun o=>o=_) ?_
 unfold b1G b4P
 refine Wp.optF (f7N s p r now hl) ?_
 have hcc:=e8G s p r now
 refine Wp.brn (fun h=>?_) (fun h=>?_)
 ·
  have h:¬ (c8Z s p r now).val=0:=iff_neb.1 h
  rcases hcc with ⟨h',_⟩ | ⟨_,h'⟩
  ·
   exact absurd h' h
  rw [h',if_neg h]
  rfl
 have h0:(c8Z s p r now).val=0:=niff_neb.1 h
 have ⟨f1,f2,f3,f4,f5⟩:=e4Q h0
 refine Wp.optF (f5F s.units s.last r.upto now f4.1 f4.2) ?_
 have hle:=d5E (units:=s.units) f4.1 f4.2
 have hu:=a3A s.units
 have hnv:(I.of .u64 (c0C s.units s.last r.upto now:Int)).nat=c0C s.units s.last r.upto now:=b7N (by omega)
 have e:U.val (I.of .u64 (c0C s.units s.last r.upto now:Int),(I.of .u64 0,(I.of .u64 0,(I.of .u64 0,()))))=c8K s r now:=(c0S _).trans hnv
 have hM:=f2M p.rpu (I.of .u64 (c0C s.units s.last r.upto now:Int),(I.of .u64 0,(I.of .u64 0,(I.of .u64 0,()))))
 rw [e] at hM
 refine Wp.optF hM (Wp.jnI ?_)
 rcases hcc with ⟨_,hcs⟩ | ⟨h',_⟩
 case inr=>exact absurd h0 h'
 simp only [f8R]
 refine Wp.brn (fun hw=>?_) (fun hw=>?_)
 ·
  have hw:¬ p.rpu.val*c8K s r now<U.top:=of_decide_eq_true hw
  rcases hcs with hcs | ⟨_,hcs⟩
  ·
   rw [if_pos hcs,if_neg hw]; rfl
  ·
   rw [hcs,if_neg b9R]; rfl
 have hw:=of_decide_eq_false hw
 have hw:p.rpu.val*c8K s r now<U.top:=by omega
 rw [d0C hw]
 rcases hcs with hcs | ⟨hmax,hcs⟩
 case inr =>
  refine Wp.brnT ?_ ?_
  ·
   have hv:=a2G s.reports
   rw [d2G,hmax]
   rfl
  ·
   rw [hcs,if_neg b9R]; rfl
 have hC:=d8X hcs
 have hcnt:=e4W hC
 rw [if_pos hcs,if_pos hw]
 refine Wp.brnF (by rw [d4T]; exact decide_eq_false (by show ¬ (I.add s.reports (I.of .u64 1)).nat=0; rw [hcnt]; omega)) ?_
 refine Wp.optF (f1U s.posters r.from' r.cost (U.of (p.rpu.val*c8K s r now)) (I.add s.reports (I.of .u64 1)) hC.tab hC.fnd (by rw [hcnt]; omega)) ?_
 have hA:=e0F (c:=r.cost) (w:=U.of (p.rpu.val*c8K s r now)) (since:=I.add s.reports (I.of .u64 1)) hC.tab hC.fnd (by rw [hcnt]; omega)
 have hL:b9O s.posters r.from' r.cost (U.of (p.rpu.val*c8K s r now)) (I.add s.reports (I.of .u64 1))=b6A s p r now:=rfl
 rw [hL] at hA ⊢
 rcases hA with ⟨hA,_⟩ | ⟨hA,_,_,hT⟩
 ·
  rw [if_neg (by rw [hA]; exact b9R)]
  simp only [hA]
  exact Wp.brnT rfl rfl
 rw [if_pos (by rw [hA]; rfl)]
 simp only [hA]
 refine Wp.brnF rfl ?_
 generalize (b6A s p r now).1=l at hT ⊢
 have hl64:=hT.1
 have hP:=g0T l pool (by omega)
 rw [g1W hT pool] at hP
 refine Wp.optF hP ?_
 have hpl:=d9Q l pool
 refine Wp.optF (f6G l (b3T (ord l) pool.val) (by omega) (by show (a2H l pool).length≤_; omega)) ?_
 rw [show b3T (ord l) pool.val=a2H l pool from rfl]
 rcases e4J hT pool with hB | ⟨hB,hT2,_,_,hdu⟩
 ·
  rw [if_neg (by rw [hB]; exact b9R)]
  simp only [hB]
  exact Wp.brnT rfl rfl
 rw [if_pos (by rw [hB]; rfl)]
 simp only [hB]
 refine Wp.brnF rfl ?_
 have hsum:=f2H l pool
 have hpo:=pool.lt
 have hps:b3C ((a2H l pool).map amt)<U.top:=by omega
 refine Wp.optF (f6I (l:=a2H l pool) (by omega)) ?_
 rw [d0C hps]
 refine Wp.optF (c4G pool _) ?_
 have hsv:(U.of (b3C ((a2H l pool).map amt))).val=b3C ((a2H l pool).map amt):=U.val_of hps
 have hsub:(f4J pool (U.of (b3C ((a2H l pool).map amt)))).1=U.of (pool.val-b3C ((a2H l pool).map amt)):=by
  unfold f4J
  rw [hsv,if_pos (by omega)]
 refine Wp.optF (e3V (by have:=hT2.1; omega) hT2) ?_
 unfold c9W
 have e1:(c4O s (a3L l (a2H l pool)).1).posters=(a3L l (a2H l pool)).1:=rfl
 rw [e1]
 simp only [f8R]
 refine Wp.brn (fun hd=>?_) (fun hd=>?_)
 ·
  have hd:=of_decide_eq_true hd
  simp only [if_neg hd]
  rw [if_neg b9R]; rfl
 have hd:=of_decide_eq_false hd
 have hd:b3C ((a3L l (a2H l pool)).1.map c0J)<U.top:=by omega
 simp only [if_pos hd,hsub]
 rw [d0C hd]
 refine Wp.optF (g2P _ _) (Wp.jnI ?_)
 have hz:S.of (((U.of (pool.val-b3C ((a2H l pool).map amt))).val:Int)-((U.of (b3C ((a3L l (a2H l pool)).1.map c0J))).val:Int))=c8N pool (a3L l (a2H l pool)).1 (a2H l pool):=by
  unfold c8N
  rw [U.val_of hd,U.val_of (by omega)]
 simp only [hz]
 have hn1:(c1V s p r now (a2H l pool)).1.nat=c8K s r now:=hnv
 rw [hn1]
 have e0:(I.of .u64 0).nat=0:=rfl
 simp only [c5K]
 rw [e0,show (I.of .u64 (c0C s.units s.last r.upto now:Int)).nat=c8K s r now from hnv]
 refine Wp.brn (fun hp=>?_) (fun hp=>?_)
 ·
  have hp:=of_decide_eq_true hp
  simp only [if_neg (show ¬ c8K s r now=0 by omega)]
  refine Wp.optF (g0S _ _ _ _ _) ?_
  refine Wp.brn (fun hN=>?_) (fun hN=>?_)
  ·
   have hN:I.neb (c5L s.price (c8N pool (a3L l (a2H l pool)).1 (a2H l pool)) s.surplus (I.of .u64 (c0C s.units s.last r.upto now:Int)) p).2 (I.of .i64 0)=true:=hN
   have hN2:I.neb (c5L (c4O s (a3L l (a2H l pool)).1).price (c8N pool (a3L l (a2H l pool)).1 (c1V s p r now (a2H l pool)).2.2.1) (c4O s (a3L l (a2H l pool)).1).surplus (c1V s p r now (a2H l pool)).1 p).2 (I.of .i64 0)=true:=hN
   simp only [if_pos hN2]
   have:¬ (c5L (c4O s (a3L l (a2H l pool)).1).price (c8N pool (a3L l (a2H l pool)).1 (c1V s p r now (a2H l pool)).2.2.1) (c4O s (a3L l (a2H l pool)).1).surplus (c1V s p r now (a2H l pool)).1 p).2.val=0:=iff_neb.1 hN2
   rw [if_neg this]; rfl
  ·
   have hN:I.neb (c5L s.price (c8N pool (a3L l (a2H l pool)).1 (a2H l pool)) s.surplus (I.of .u64 (c0C s.units s.last r.upto now:Int)) p).2 (I.of .i64 0)=false:=hN
   have hN2:¬ I.neb (c5L (c4O s (a3L l (a2H l pool)).1).price (c8N pool (a3L l (a2H l pool)).1 (c1V s p r now (a2H l pool)).2.2.1) (c4O s (a3L l (a2H l pool)).1).surplus (c1V s p r now (a2H l pool)).1 p).2 (I.of .i64 0)=true:=fun h=>by
    have h:I.neb (c5L s.price (c8N pool (a3L l (a2H l pool)).1 (a2H l pool)) s.surplus (I.of .u64 (c0C s.units s.last r.upto now:Int)) p).2 (I.of .i64 0)=true:=h
    rw [hN] at h; cases h
   simp only [if_neg hN2]
   rw [if_pos (show (I.of .i64 0).val=0 from rfl)]; rfl
 ·
  have hp:=of_decide_eq_false hp
  have hp0:c8K s r now=0:=by omega
  simp only [if_pos hp0]
  rw [if_pos (show (I.of .i64 0).val=0 from rfl)]; rfl
end Sym

/- The machine of the reference: numbers that need not fit, the ledger. -/
namespace Sym
open Go
theorem g0B (a q:Nat):U.of (a+U.top*q)=U.of a:=by
 unfold U.of U.top
 have h0:(a+115792089237316195423570985008687907853269984665640564039457584007913129639936*q)%18446744073709551616=a%18446744073709551616:=by omega
 have h1:(a+115792089237316195423570985008687907853269984665640564039457584007913129639936*q) / 18446744073709551616%18446744073709551616=a / 18446744073709551616%18446744073709551616:=by omega
 have h2:(a+115792089237316195423570985008687907853269984665640564039457584007913129639936*q) / 340282366920938463463374607431768211456%18446744073709551616=a / 340282366920938463463374607431768211456%18446744073709551616:=by omega
 have h3:(a+115792089237316195423570985008687907853269984665640564039457584007913129639936*q) / 6277101735386680763835789423207666416102355444464034512896%18446744073709551616=a / 6277101735386680763835789423207666416102355444464034512896%18446744073709551616:=by omega
 rw [h0,h1,h2,h3]
theorem c7L {l:List Dg} {n:Nat} (hl:IsB l n) (hlen:l.length≤1000000):a0P K0 ((l,()),())=some ((U.of n,()),()):=by
 have ht:U.top=65536^16:=by decide
 have c16:(I.of .i64 16).val=16:=rfl
 have c4:(I.of .i64 4).val=4:=rfl
 have c1:(I.of .i64 1).val=1:=rfl
 have hol:(I.ofNat .i64 (a0K l)).val=l.length:=a2Z (by show l.length<_; omega)
 have key:Wp (fun o=>o=some ((U.of n,()),())) (a0P K0 ((l,()),())):=by
  unfold a0P
  refine Wp.iter (fun x=>x.1.1=l∧0≤x.1.2.1.val∧x.1.2.1.val≤(l.length:Int)∧x.1.2.1.val≤16∧U.val x.2.2.1=bv (l.take x.1.2.1.val.toNat)) (fun x=>((l.length:Int)-x.1.2.1.val).toNat) ?_ ?_ ?_
  ·
   rintro ⟨⟨l',i,⟨⟩⟩,r0,u,⟨⟩⟩ ⟨e1,hi0,hi1,hi2,hu⟩
   simp only at e1 hi0 hi1 hi2 hu
   subst e1
   have fin:i.val.toNat=min 16 l'.length→u=U.of n:=by
    intro e
    have e16:l'.take i.val.toNat=l'.take 16:=by rw [e,List.take_eq_take_iff]; simp
    rw [e16] at hu
    have hn:n=bv (l'.take 16)+U.top*bv (l'.drop 16):=by
     rw [← hl.val]
     conv=>lhs; rw [← List.take_append_drop 16 l',c5Q]
     by_cases hc:l'.length≤16
     ·
      rw [List.drop_eq_nil_of_le hc]
      rfl
     ·
      rw [List.length_take,Nat.min_eq_left (by omega),ht]
    rw [hn,g0B,← hu]
    exact (U.of_val u).symm
   refine Wp.brn (fun h=>?_) (fun h=>?_)
   ·
    have h:=iff_ltb.1 h
    simp only [hol] at h
    have hlt:i.val.toNat<l'.length:=by omega
    refine Wp.brn (fun h16=>?_) (fun h16=>?_)
    case refine_2 =>
     have h16:(I.of .i64 16).val≤i.val:=niff_ltb.1 h16
     have:=fin (by omega)
     subst this
     exact Wp.done rfl
    have h16:i.val<(I.of .i64 16).val:=iff_ltb.1 h16
    have hq:(I.quo i (I.of .i64 4)).val=i.val / 4:=c1Q hi0 (by decide)
    have hr:(I.rem i (I.of .i64 4)).val=i.val%4:=b9N hi0 (by decide)
    have hs:(I.add i (I.of .i64 1)).val=i.val+1:=by rw [a6A (by omega)]; omega
    have hm:(I.mul (I.of .i64 16) (I.rem i (I.of .i64 4))).val=16*(i.val%4):=by rw [c3M (by rw [c16,hr]; omega),hr,c16]
    have hin:inB (I.quo i (I.of .i64 4)) 4=true:=iff_inB.2 ⟨by omega,by omega⟩
    refine Wp.brnT hin ?_
    refine Wp.brnT (iff_inB.2 ⟨hi0,by show i.val<((l'.length:Nat):Int); omega⟩) ?_
    refine Wp.brnT (c4P _) ?_
    refine Wp.brnT hin ?_
    have hdig:DigOk l'[i.val.toNat]:=hl.dig _ (List.getElem_mem hlt)
    have hrd:rdL (I.of .i64 0) l' (I.nat i)=l'[i.val.toNat]:=a3Y _ _ _ hlt
    have e1:I.nat (I.quo i (I.of .i64 4))=i.val.toNat / 4:=by unfold I.nat; omega
    have e2:I.conv .u64 (I.mul (I.of .i64 16) (I.rem i (I.of .i64 4)))=I.of .u64 (16*(i.val.toNat%4):Nat):=by
     show I.of .u64 _=_
     rw [hm]
     congr 1
     omega
    have e3:I.conv .u64 (rdL (I.of .i64 0) l' (I.nat i))=I.of .u64 ((l'[i.val.toNat]).nat:Int):=by
     show I.of .u64 _=_
     rw [hrd,hdig.nat.1]
    have hub:U.val u<65536^i.val.toNat:=by
     rw [hu]
     have:=e8E (c4T hl.dig i.val.toNat)
     rw [List.length_take] at this
     rwa [Nat.min_eq_left (by omega)] at this
    have st:=e9T u (l'[i.val.toNat]).nat i.val.toNat (by omega) hub hdig.nat.2
    refine Wp.again ⟨rfl,?_,?_,by show (I.add i (I.of .i64 1)).val≤16; omega,?_⟩ ?_
    ·
     show 0≤(I.add i (I.of .i64 1)).val; omega
    ·
     show (I.add i (I.of .i64 1)).val≤_; omega
    ·
     show U.val (Arr.upd 4 u (I.nat (I.quo i (I.of .i64 4))) (I.add (Arr.sel (I.of .u64 0) 4 u (I.nat (I.quo i (I.of .i64 4)))) (I.shl (I.conv .u64 (rdL (I.of .i64 0) l' (I.nat i))) (I.conv .u64 (I.mul (I.of .i64 16) (I.rem i (I.of .i64 4)))))))=bv (l'.take (I.add i (I.of .i64 1)).val.toNat)
     have e4:(I.add i (I.of .i64 1)).val.toNat=i.val.toNat+1:=by omega
     rw [e1,e2,e3,e4,st,c6T hlt,← hu]
    ·
     show ((l'.length:Int)-(I.add i (I.of .i64 1)).val).toNat<_
     simp only; omega
   ·
    have h:=niff_ltb.1 h
    simp only [hol] at h
    have:=fin (by omega)
    subst this
    exact Wp.done rfl
  ·
   refine ⟨rfl,by show 0≤(I.of .i64 0).val; decide,by show (I.of .i64 0).val≤(l.length:Int); have:(I.of .i64 0).val=0:=rfl; omega,by show (I.of .i64 0).val≤16; decide,?_⟩
   show U.val _=bv (l.take (I.of .i64 0).val.toNat)
   rfl
  ·
   exact c0O _ (by show ((l.length:Int)-(I.of .i64 0).val).toNat<_; have:(I.of .i64 0).val=0:=rfl; omega)
 exact key.out
end Sym

/- The ledger of the reference. -/
namespace Sym
open Go
abbrev Ac:Type:=a0O
abbrev V4:Type:=d2Y
noncomputable abbrev dA:Ac:=b7B
abbrev LgH:Type:=a0N
def aAt (l:List Ac) (a:I .u64):Nat:=l.findIdx fun p=>I.eqb p.1 a
def aAI (l:List Ac) (a:I .u64):I .i64:=if aAt l a<l.length then i6 (aAt l a) else I.of .i64 (-1)
theorem h0Q {l:List Ac} {a:I .u64} {i:Nat} (hi:i<l.length) (h1:I.eqb (rdL dA l i).1 a=true) (h2:∀ k,k<i→I.eqb (rdL dA l k).1 a=false):aAt l a=i:=by
 unfold aAt
 rw [List.findIdx_eq hi]
 refine ⟨by rw [← a3Y dA l i hi]; exact h1,fun k hk=>?_⟩
 rw [← a3Y dA l k (by omega)]
 exact h2 k hk
theorem f9J {l:List Ac} {a:I .u64} (h2:∀ k,k<l.length→I.eqb (rdL dA l k).1 a=false):aAt l a=l.length:=by
 unfold aAt
 rw [List.findIdx_eq_length]
 intro x hx
 obtain ⟨k,hk,rfl⟩:=c7O dA hx
 exact h2 k hk
theorem at_eq (l:List Ac) (v:V4×Unit) (a:I .u64) (hl:l.length≤1073741824):a6Y K0 (((l,v),(a,())),())=some ((aAI l a,()),()):=by
 refine Wp.out (T:=fun o=>o=some ((aAI l a,()),())) ?_
 unfold a6Y
 simp only [a8H,a5Y,c2H,b5U]
 refine Wp.iter (fun s=>∃ i,s=(((l,v),(a,(i6 i,()))),())∧i≤l.length∧∀ k,k<i→I.eqb (rdL dA l k).1 a=false) (fun s=>l.length-s.1.2.2.1.val.toNat) ?_ ⟨0,rfl,by omega,fun k hk=>by omega⟩ ?_
 ·
  rintro s ⟨i,rfl,hi,ht⟩
  simp only [a2L (show i<9223372036854775808 by omega) (show l.length<9223372036854775808 by omega),a3J (show i<9223372036854775808 by omega),a2K (show i+1<9223372036854775808 by omega)]
  refine Wp.brn (fun hc=>?_) (fun hc=>?_)
  ·
   have hc:=of_decide_eq_true hc
   refine Wp.brnT (a3H (by omega) (by omega)) ?_
   refine Wp.brn (fun h=>?_) (fun h=>?_)
   ·
    refine Wp.done ?_
    have e:=h0Q hc h ht
    unfold aAI
    rw [e,if_pos hc]
    rfl
   ·
    refine Wp.again ⟨i+1,rfl,by omega,fun k hk=>?_⟩ (by show l.length-(i6 (i+1)).val.toNat<l.length-(i6 i).val.toNat; rw [a0Q (by omega),a0Q (by omega)]; omega)
    rcases (by omega:k<i∨k=i) with h3 | rfl
    ·
     exact ht k h3
    ·
     exact h
  ·
   have hc:=of_decide_eq_false hc
   refine Wp.done ?_
   have e:=f9J fun k hk=>ht k (by omega)
   unfold aAI
   rw [if_neg (by omega)]
   rfl
 ·
  rw [a6Z]
  show l.length-_<_
  omega
theorem e0W {l:List Ac} {a:I .u64} (hl:l.length≤1073741824):I.leb (I.of .i64 0) (aAI l a)=decide (aAt l a<l.length):=by
 unfold aAI
 by_cases h:aAt l a<l.length
 ·
  rw [if_pos h,decide_eq_true h]
  exact iff_leb.2 (by rw [a0Q (by omega),show (I.of .i64 0).val=0 from rfl]; omega)
 ·
  rw [if_neg h,decide_eq_false h]
  exact niff_leb.2 (by decide)
noncomputable def c6H (l:List Ac) (a:I .u64):Ac:=if aAt l a<l.length then rdL dA l (aAt l a) else (a,(Z_U,((I.of .u64 0),())))
def g2Y (l:List Ac) (x:Ac):List Ac:=if aAt l x.1<l.length then b9T l (aAt l x.1) x else l++[x]
theorem e3O (l:List Ac) (v:V4×Unit) (a:I .u64) (hl:l.length≤1073741824):a3F K0 (((l,v),(a,())),())=some ((c6H l a,()),()):=by
 refine Wp.out (T:=fun o=>o=some ((c6H l a,()),())) ?_
 unfold a3F
 refine Wp.optF (at_eq l v a hl) ?_
 refine Wp.brn (fun h=>?_) (fun h=>?_)
 ·
  have h:I.leb (I.of .i64 0) (aAI l a)=true:=h
  rw [e0W hl] at h
  have h:=of_decide_eq_true h
  have e:aAI l a=i6 (aAt l a):=by unfold aAI; rw [if_pos h]
  refine Wp.brnT (by show inB (aAI l a) (a0K l)=true; rw [e]; exact a3H h (by omega)) ?_
  show some ((rdL dA l (I.nat (aAI l a)),()),())=_
  rw [e,a3J (by omega)]
  unfold c6H
  rw [if_pos h]
 ·
  have h:I.leb (I.of .i64 0) (aAI l a)=false:=h
  rw [e0W hl] at h
  have h:=of_decide_eq_false h
  show some (((a,(Z_U,((I.of .u64 0),()))),()),())=_
  unfold c6H
  rw [if_neg h]
theorem put_eq (l:List Ac) (h0:LgH) (x:Ac) (hl:l.length<1073741824):a4Z K0 ((x,()),(h0,(l,())))=some ((),(h0,(g2Y l x,()))):=by
 refine Wp.out (T:=fun o=>o=some ((),(h0,(g2Y l x,())))) ?_
 unfold a4Z
 refine Wp.optF (at_eq l h0.2 x.1 (by omega)) ?_
 refine Wp.brn (fun h=>?_) (fun h=>?_)
 ·
  have h:I.leb (I.of .i64 0) (aAI l x.1)=true:=h
  rw [e0W (by omega)] at h
  have h:=of_decide_eq_true h
  have e:aAI l x.1=i6 (aAt l x.1):=by unfold aAI; rw [if_pos h]
  refine Wp.brnT (by show inB (aAI l x.1) (a0K l)=true; rw [e]; exact a3H h (by omega)) ?_
  show some ((),(h0,(b9T l (I.nat (aAI l x.1)) x,())))=_
  rw [e,a3J (by omega)]
  unfold g2Y
  rw [if_pos h]
 ·
  have h:I.leb (I.of .i64 0) (aAI l x.1)=false:=h
  rw [e0W (by omega)] at h
  have h:=of_decide_eq_false h
  refine Wp.brnT (b3P (by show (l++[x]).length≤_; rw [List.length_append]; show l.length+1≤_; omega)) ?_
  show some ((),(h0,(l++[x],())))=_
  unfold g2Y
  rw [if_neg h]
theorem f1O {X:Type} (l:List X) (i:Nat) (x:X):(b9T l i x).length=l.length:=by rw [b9T,a7K,List.length_set]
theorem e2D (l:List Ac) (x:Ac):(g2Y l x).length≤l.length+1:=by
 unfold g2Y
 split
 ·
  rw [f1O]; omega
 ·
  simp
def f1A (x:Ac) (n:U):Ac:=(x.1,(n,x.2.2))
noncomputable def d1Z (l:List Ac) (a:I .u64) (n:U):List Ac:=g2Y l (f1A (c6H l a) (U.of ((c6H l a).2.1.val+n.val)))
noncomputable def b2H (l:List Ac) (a:I .u64) (n:U):Bool:=decide (n.val≤(c6H l a).2.1.val)
noncomputable def c4F (l:List Ac) (a:I .u64) (n:U):List Ac:=if n.val≤(c6H l a).2.1.val then g2Y l (f1A (c6H l a) (U.of ((c6H l a).2.1.val-n.val))) else l
theorem f2J {l:List Dg} {a:U} (h:IsB l a.val):l.length≤1000000:=b4X h (k:=16) (Nat.lt_of_lt_of_le (U.lt a) (by decide)) (by decide)
theorem g0X {l:List Dg} {n:Nat} (h:IsB l n) (hn:n<U.top+U.top):l.length≤1000000:=b4X h (k:=17) (Nat.lt_of_lt_of_le hn (by decide)) (by decide)
theorem e5R (l:List Ac) (h0:LgH) (a:I .u64) (n:U) (hl:l.length<1073741824):a5B K0 ((a,(n,())),(h0,(l,())))=some ((),(h0,(d1Z l a n,()))):=by
 refine Wp.out (T:=fun o=>o=some ((),(h0,(d1Z l a n,())))) ?_
 unfold a5B
 obtain ⟨b1,e1,B1⟩:=a1I (c6H l a).2.1
 obtain ⟨b2,e2,B2⟩:=a1I n
 obtain ⟨b3,e3,B3⟩:=b3H B1 B2 (f2J B1) (f2J B2)
 have e4:=c7L B3 (g0X B3 (by have:=U.lt (c6H l a).2.1; have:=U.lt n; omega))
 exact Wp.optF (e3O l h0.2 a (by omega)) (Wp.optF e1 (Wp.optF e2 (Wp.optF e3 (Wp.optF e4 (Wp.optF (put_eq l h0 (f1A (c6H l a) (U.of ((c6H l a).2.1.val+n.val))) hl) rfl)))))
theorem e2L (l:List Ac) (h0:LgH) (a:I .u64) (n:U) (hl:l.length<1073741824):a4A K0 ((a,(n,())),(h0,(l,())))=some ((b2H l a n,()),(h0,(c4F l a n,()))):=by
 refine Wp.out (T:=fun o=>o=some ((b2H l a n,()),(h0,(c4F l a n,())))) ?_
 unfold a4A
 refine Wp.optF (e3O l h0.2 a (by omega)) (Wp.optF (c4G _ n) ?_)
 unfold b2H c4F f4J
 by_cases h:n.val≤(c6H l a).2.1.val
 ·
  simp only [if_pos h,decide_eq_true h]
  refine Wp.brnF (show I.neb (I.of .i64 0) (I.of .i64 0)=false by decide) ?_
  exact Wp.optF (put_eq l h0 (f1A (c6H l a) (U.of ((c6H l a).2.1.val-n.val))) hl) rfl
 ·
  simp only [if_neg h,decide_eq_false h]
  exact Wp.brnT (show I.neb (I.of .i64 4) (I.of .i64 0)=true by decide) rfl
theorem d7C (l:List Ac) (a:I .u64) (n:U):(d1Z l a n).length≤l.length+1:=e2D _ _
theorem c3V (l:List Ac) (a:I .u64) (n:U):(c4F l a n).length≤l.length+1:=by
 unfold c4F
 split
 ·
  exact e2D _ _
 ·
  omega
end Sym

/- The ledger of the reference: payments, the supply. -/
namespace Sym
open Go
def h2X {X R S:Type} (g:R→S):Stp X R→Stp X S
 | .again y=>.again y
 | .done r=>.done (g r)
theorem g0O {X R S:Type} (g:R→S) (c:Bool) (t f:Stp X R):h2X g (brn c t f)=brn c (h2X g t) (h2X g f):=by cases c<;>rfl
theorem f0A {X R S:Type} (g:R→S) {fail:R} {f:X→Stp X R} {f':X→Stp X S} (h:∀ x,f' x=h2X g (f x)):∀ k x,iter (g fail) f' k x=g (iter fail f k x)
 | 0,_=>rfl
 | k+1,x=>by
  unfold iter
  rw [h x]
  cases f x with
  | again y=>exact f0A g h k y
  | done r=>rfl
def h4Z (o:Option ((List Dg×Unit)×Unit)):Option (Unit×(List Dg×Unit)):=match o with
 | some y=>some ((),(y.1.1,()))
 | none=>none
theorem g3C (a b:List Dg):a9O K0 ((a,(b,())),())=h4Z (a1M K0 ((a,(b,())),())):=by
 unfold a9O a1M
 refine f0A h4Z (fail:=none) (fun x=>?_) _ _
 unfold jn
 dsimp only
 repeat erw [g0O]
 rfl
theorem f7K {a b:List Dg} {m n:Nat} (ha:IsB a m) (hb:IsB b n) (hal:a.length≤1000000) (hbl:b.length≤1000000):∃ r,a9O K0 ((a,(b,())),())=some ((),(r,()))∧IsB r (m+n):=by
 obtain ⟨r,h,hB⟩:=b3H ha hb hal hbl
 exact ⟨r,by rw [g3C]; exact congrArg h4Z h,hB⟩
def f2Z (l:List Ac):Nat:=(l.map fun x=>U.val x.2.1).sum
def h0G (v:V4):Nat:=v.1.val+v.2.1.val+v.2.2.1.val+v.2.2.2.1.val
theorem f8G {l:List Ac} {i:Nat} (h:i<l.length):f2Z (l.take (i+1))=f2Z (l.take i)+U.val (rdL dA l i).2.1:=by
 unfold f2Z
 rw [List.take_add_one,List.getElem?_eq_getElem h,a3Y _ _ _ h,List.map_append,List.sum_append]
 simp
theorem e6R (l:List Ac) (hl:l.length≤1073741824):f2Z l<65536^19:=by
 have:∀ l:List Ac,f2Z l≤l.length*U.top:=by
  intro l
  induction l with
  | nil=>exact Nat.zero_le _
  | cons x l ih =>
   have:=U.lt x.2.1
   show U.val x.2.1+f2Z l≤(l.length+1)*U.top
   rw [Nat.add_mul]
   omega
 have h1:=this l
 have h2:l.length*U.top≤1073741824*U.top:=Nat.mul_le_mul_right _ hl
 have h3:1073741824*U.top<65536^19:=by decide
 omega
theorem f9D {l:List Dg} {n:Nat} (h:IsB l n) (hn:n<65536^20):l.length≤1000000:=b4X h (k:=20) hn (by decide)
def e3F (v:V4) (i:Nat):Nat:=(if 0<i then v.1.val else 0)+(if 1<i then v.2.1.val else 0)+(if 2<i then v.2.2.1.val else 0)+(if 3<i then v.2.2.2.1.val else 0)
theorem f7P (v:V4) (i:Nat) (h:i<4):e3F v (i+1)=e3F v i+U.val (Arr.sel Z_U 4 v i):=by
 rcases (by omega:i=0∨i=1∨i=2∨i=3) with rfl | rfl | rfl | rfl
 ·
  show e3F v 1=e3F v 0+U.val v.1; simp [e3F]
 ·
  show e3F v 2=e3F v 1+U.val v.2.1; simp [e3F]
 ·
  show e3F v 3=e3F v 2+U.val v.2.2.1; simp [e3F]
 ·
  show e3F v 4=e3F v 3+U.val v.2.2.2.1; simp [e3F]
theorem f8D (v:V4) (i:Nat):e3F v i<65536^18:=by
 have h0:=U.lt v.1; have h1:=U.lt v.2.1; have h2:=U.lt v.2.2.1; have h3:=U.lt v.2.2.2.1
 have:4*U.top<65536^18:=by decide
 unfold e3F
 split<;>split<;>split<;>split<;>omega
theorem f6R (l:List Ac) (v:V4) (hl:l.length≤1073741824):∃ y,a6V K0 (((l,(v,())),()),())=some y∧∃ r,y=((r,()),())∧IsB r (f2Z l+h0G v):=by
 refine Wp.out (T:=fun o=>∃ y,o=some y∧∃ r,y=((r,()),())∧IsB r (f2Z l+h0G v)) ?_
 unfold a6V
 have hp:(65536^20:Nat)=65536*65536^19:=by decide
 have hp2:(65536^19:Nat)=65536*65536^18:=by decide
 have hb:=e6R l hl
 refine Wp.iter (fun s=>∃ (i:Nat) (r:List Dg),s=(((l,(v,())),(i6 i,())),(r,()))∧i≤l.length∧IsB r (f2Z (l.take i))) (fun s=>l.length-s.1.2.1.val.toNat) ?_ ⟨0,[],rfl,by omega,⟨(fun _ h=>by cases h),trivial,rfl⟩⟩ (by rw [a6Z]; show l.length-_<_; omega)
 rintro s ⟨i,r,rfl,hi,hB⟩
 simp only [a8H,a5Y,c2H,b5U,a2L (show i<9223372036854775808 by omega) (show l.length<9223372036854775808 by omega),a3J (show i<9223372036854775808 by omega),a2K (show i+1<9223372036854775808 by omega)]
 refine Wp.brn (fun hc=>?_) (fun hc=>?_)
 ·
  have hc:=of_decide_eq_true hc
  refine Wp.brnT (a3H (by omega) (by omega)) ?_
  obtain ⟨b1,e1,B1⟩:=a1I (rdL dA l i).2.1
  have hlt:f2Z (l.take i)<65536^20:=by
   have:=e6R (l.take i) (by rw [List.length_take]; omega)
   omega
  obtain ⟨b2,e2,B2⟩:=f7K hB B1 (f9D hB hlt) (f2J B1)
  refine Wp.optF e1 (Wp.optF e2 ?_)
  exact Wp.again ⟨i+1,b2,rfl,by omega,by rw [f8G hc]; exact B2⟩ (by show l.length-(i6 (i+1)).val.toNat<l.length-(i6 i).val.toNat; rw [a0Q (by omega),a0Q (by omega)]; omega)
 ·
  have hc:i=l.length:=by have:=of_decide_eq_false hc; omega
  subst hc
  rw [List.take_length] at hB
  refine Wp.done ?_
  refine Wp.iter (fun s=>∃ (i:Nat) (r:List Dg),s=(((l,(v,())),(i6 i,())),(r,()))∧i≤4∧IsB r (f2Z l+e3F v i)) (fun s=>4-s.1.2.1.val.toNat) ?_ ⟨0,r,rfl,by omega,hB⟩ (by rw [a6Z]; show 4-0<_; decide)
  rintro s ⟨i,r,rfl,hi,hB⟩
  simp only [show (I.of .i64 4)=i6 4 from rfl,a2L (show i<9223372036854775808 by omega) (show 4<9223372036854775808 by omega),a3J (show i<9223372036854775808 by omega),a2K (show i+1<9223372036854775808 by omega)]
  refine Wp.brn (fun hc=>?_) (fun hc=>?_)
  ·
   have hc:=of_decide_eq_true hc
   refine Wp.brnT (a3H (by omega) (by omega)) ?_
   obtain ⟨b1,e1,B1⟩:=a1I (Arr.sel Z_U 4 v i)
   have hv:=f8D v i
   obtain ⟨b2,e2,B2⟩:=f7K hB B1 (f9D hB (by omega)) (f2J B1)
   refine Wp.optF e1 (Wp.optF e2 ?_)
   exact Wp.again ⟨i+1,b2,rfl,by omega,by rw [f7P v i hc,← Nat.add_assoc]; exact B2⟩ (by show 4-(i6 (i+1)).val.toNat<4-(i6 i).val.toNat; rw [a0Q (by omega),a0Q (by omega)]; omega)
  ·
   have hc:i=4:=by have:=of_decide_eq_false hc; omega
   subst hc
   exact Wp.done ⟨_,rfl,r,rfl,hB⟩
end Sym

/- The ledger of the reference: its methods. -/
namespace Sym
open Go
abbrev LgR:Type:=I .i64×V4×List Ac
noncomputable def d2A (v:V4) (l:List Ac) (a:I .u64) (n:U):LgR :=
 if a.val=0 then (I.of .i64 2,v,l)
 else if f2Z l+h0G v+n.val<U.top then (I.of .i64 0,v,d1Z l a n) else (I.of .i64 4,v,l)
def lgH (v:V4):LgH:=((),(v,()))
theorem g5A (v:V4) (l:List Ac) (a:I .u64) (n:U) (hl:l.length<1073741824) :
  a8E K0 ((a,(n,())),(lgH v,(l,())))=some (((d2A v l a n).1,()),(lgH (d2A v l a n).2.1,((d2A v l a n).2.2,()))):=by
 refine Wp.out (T:=fun o=>o=some (((d2A v l a n).1,()),(lgH (d2A v l a n).2.1,((d2A v l a n).2.2,())))) ?_
 unfold a8E d2A
 refine Wp.brn (fun h=>?_) (fun h=>?_)
 ·
  rw [if_pos (by have:=iff_eqb.1 h; exact this)]
  rfl
 ·
  rw [if_neg (by have:=niff_eqb.1 h; exact this)]
  obtain ⟨y,hy,r,rfl,hB⟩:=f6R l v (by omega)
  obtain ⟨b1,e1,B1⟩:=a1I n
  have hb:=e6R l (by omega)
  have hv:=f8D v 4
  have hv':e3F v 4=h0G v:=rfl
  have hp:(65536^20:Nat)=65536*65536^19:=by decide
  have hp2:(65536^19:Nat)=65536*65536^18:=by decide
  have hn:=U.lt n
  have ht:U.top<65536^18:=by decide
  obtain ⟨b2,e2,B2⟩:=b3H hB B1 (f9D hB (by omega)) (f2J B1)
  have e3:=e4N B2 (f9D B2 (by omega))
  refine Wp.optF hy (Wp.optF e1 (Wp.optF e2 (Wp.optF e3 ?_)))
  by_cases hc:f2Z l+h0G v+n.val<U.top
  ·
   rw [if_pos hc]
   refine Wp.brnF (by rw [decide_eq_true hc]; rfl) ?_
   exact Wp.optF (e5R l (lgH v) a n hl) rfl
  ·
   rw [if_neg hc]
   exact Wp.brnT (by rw [decide_eq_false hc]; rfl) rfl
def h8C (v:V4) (k:Nat) (n:U):V4:=Arr.upd 4 v k n
noncomputable def f3J (v:V4) (k:Nat):U:=Arr.sel Z_U 4 v k
noncomputable def d1X (v:V4) (l:List Ac) (a:I .u64) (k:Nat) (n:U):LgR :=
 if a.val=0 then (I.of .i64 2,v,l)
 else if b2H l a n=true then (I.of .i64 0,h8C v k (U.of ((f3J v k).val+n.val)),c4F l a n) else (I.of .i64 10,v,c4F l a n)
theorem e0S (v:V4) (l:List Ac) (a:I .u64) (k:Nat) (hk:k<4) (n:U) (hl:l.length<1073741824) :
  a2R K0 ((a,(i6 (k+1),(n,()))),(lgH v,(l,())))=some (((d1X v l a k n).1,()),(lgH (d1X v l a k n).2.1,((d1X v l a k n).2.2,()))):=by
 refine Wp.out (T:=fun o=>o=some (((d1X v l a k n).1,()),(lgH (d1X v l a k n).2.1,((d1X v l a k n).2.2,())))) ?_
 unfold a2R d1X
 have hsub:I.sub (i6 (k+1)) (I.of .i64 1)=i6 k:=by rw [b5U,c2V (by omega) (by omega)]; rfl
 refine Wp.jn (fun x=>a.val≠0∧x=((a,(i6 (k+1),())),(lgH v,(l,(n,()))))) ?_ ?_
 ·
  rintro x ⟨ha,rfl⟩
  rw [if_neg ha]
  refine Wp.optF (e2L l (lgH v) a n hl) ?_
  refine Wp.brn (fun h=>?_) (fun h=>?_)
  ·
   have h:b2H l a n=false:=by revert h; show a6O (b2H l a n)=true→_; cases b2H l a n<;>simp [a6O]
   rw [if_neg (by rw [h]; decide)]
   rfl
  ·
   have h:b2H l a n=true:=by revert h; show a6O (b2H l a n)=false→_; cases b2H l a n<;>simp [a6O]
   rw [if_pos h]
   have hin:inB (I.sub (i6 (k+1)) (I.of .i64 1)) 4=true:=by rw [hsub]; exact a3H hk (by omega)
   refine Wp.brnT hin ?_
   simp only [hsub,a3J (show k<9223372036854775808 by omega)]
   obtain ⟨b1,e1,B1⟩:=a1I (f3J v k)
   obtain ⟨b2,e2,B2⟩:=a1I n
   obtain ⟨b3,e3,B3⟩:=b3H B1 B2 (f2J B1) (f2J B2)
   have e4:=c7L B3 (g0X B3 (by have:=U.lt (f3J v k); have:=U.lt n; omega))
   exact Wp.optF e1 (Wp.optF e2 (Wp.optF e3 (Wp.optF e4 (Wp.brnT (a3H hk (by omega)) rfl))))
 ·
  intro j hj
  refine Wp.brn (fun h=>?_) (fun h=>?_)
  ·
   rw [if_pos (by have:=iff_eqb.1 h; exact this)]
   rfl
  ·
   have ha:a.val≠0:=by have:=niff_eqb.1 h; exact this
   refine Wp.brnF (niff_ltb.2 (by show (I.of .i64 1).val≤(i6 (k+1)).val; rw [a0Q (by omega),show (I.of .i64 1).val=1 from rfl]; omega)) ?_
   refine Wp.brnF (niff_ltb.2 (by show (i6 (k+1)).val≤(I.of .i64 4).val; rw [a0Q (by omega),show (I.of .i64 4).val=4 from rfl]; omega)) ?_
   exact hj _ ⟨ha,rfl⟩
noncomputable def g3K (l:List Ac) (a:I .u64):I .i64×List Ac :=
 if a.val=0 then (I.of .i64 2,l)
 else if (I.add (c6H l a).2.2.1 (I.of .u64 1)).val=0 then (I.of .i64 4,l)
 else (I.of .i64 0,g2Y l ((c6H l a).1,((c6H l a).2.1,(I.add (c6H l a).2.2.1 (I.of .u64 1),(c6H l a).2.2.2))))
theorem h1L (v:V4) (l:List Ac) (a:I .u64) (hl:l.length<1073741824) :
  a3Z K0 ((a,()),(lgH v,(l,())))=some (((g3K l a).1,()),(lgH v,((g3K l a).2,()))):=by
 refine Wp.out (T:=fun o=>o=some (((g3K l a).1,()),(lgH v,((g3K l a).2,())))) ?_
 unfold a3Z g3K
 refine Wp.brn (fun h=>?_) (fun h=>?_)
 ·
  rw [if_pos (by have:=iff_eqb.1 h; exact this)]
  rfl
 ·
  rw [if_neg (by have:=niff_eqb.1 h; exact this)]
  refine Wp.optF (e3O l (lgH v).2 a (by omega)) ?_
  refine Wp.brn (fun h=>?_) (fun h=>?_)
  ·
   rw [if_pos (by have:=iff_eqb.1 h; exact this)]
   rfl
  ·
   rw [if_neg (by have:=niff_eqb.1 h; exact this)]
   exact Wp.optF (put_eq l (lgH v) ((c6H l a).1,((c6H l a).2.1,(I.add (c6H l a).2.2.1 (I.of .u64 1),(c6H l a).2.2.2))) hl) rfl
noncomputable def f0V (l:List Ac) (a:I .u64) (n:U):I .i64×List Ac :=
 if a.val=0 then (I.of .i64 2,l) else (if b2H l a n=true then I.of .i64 0 else I.of .i64 10,c4F l a n)
theorem h2J (v:V4) (l:List Ac) (a:I .u64) (n:U) (hl:l.length<1073741824) :
  a5Z K0 ((a,(n,())),(lgH v,(l,())))=some (((f0V l a n).1,()),(lgH v,((f0V l a n).2,()))):=by
 refine Wp.out (T:=fun o=>o=some (((f0V l a n).1,()),(lgH v,((f0V l a n).2,())))) ?_
 unfold a5Z f0V
 refine Wp.brn (fun h=>?_) (fun h=>?_)
 ·
  rw [if_pos (by have:=iff_eqb.1 h; exact this)]
  rfl
 ·
  rw [if_neg (by have:=niff_eqb.1 h; exact this)]
  refine Wp.optF (e2L l (lgH v) a n hl) ?_
  refine Wp.brn (fun h=>?_) (fun h=>?_)
  ·
   have h:b2H l a n=false:=by revert h; show a6O (b2H l a n)=true→_; cases b2H l a n<;>simp [a6O]
   rw [if_neg (by rw [h]; decide)]
   rfl
  ·
   have h:b2H l a n=true:=by revert h; show a6O (b2H l a n)=false→_; cases b2H l a n<;>simp [a6O]
   rw [if_pos h]
   rfl
noncomputable def g1T (l:List Ac) (a b:I .u64) (n:U):I .i64×List Ac :=
 if a.val=0∨b.val=0 then (I.of .i64 2,l)
 else if b2H l a n=true then (I.of .i64 0,d1Z (c4F l a n) b n) else (I.of .i64 10,c4F l a n)
theorem g9X (v:V4) (l:List Ac) (a b:I .u64) (n:U) (hl:l.length<1073741823) :
  a5X K0 ((a,(b,(n,()))),(lgH v,(l,())))=some (((g1T l a b n).1,()),(lgH v,((g1T l a b n).2,()))):=by
 refine Wp.out (T:=fun o=>o=some (((g1T l a b n).1,()),(lgH v,((g1T l a b n).2,())))) ?_
 unfold a5X g1T
 refine Wp.jn (fun x=>(a.val≠0∧b.val≠0)∧x=((a,(b,())),(lgH v,(l,(n,()))))) ?_ ?_
 ·
  rintro x ⟨⟨ha,hb⟩,rfl⟩
  rw [if_neg (by omega)]
  refine Wp.optF (e2L l (lgH v) a n (by omega)) ?_
  refine Wp.brn (fun h=>?_) (fun h=>?_)
  ·
   have h:b2H l a n=false:=by revert h; show a6O (b2H l a n)=true→_; cases b2H l a n<;>simp [a6O]
   rw [if_neg (by rw [h]; decide)]
   rfl
  ·
   have h:b2H l a n=true:=by revert h; show a6O (b2H l a n)=false→_; cases b2H l a n<;>simp [a6O]
   rw [if_pos h]
   exact Wp.optF (e5R (c4F l a n) (lgH v) b n (by have:=c3V l a n; omega)) rfl
 ·
  intro j hj
  refine Wp.brn (fun h=>?_) (fun h=>?_)
  ·
   rw [if_pos (.inl (by have:=iff_eqb.1 h; exact this))]
   rfl
  ·
   have ha:a.val≠0:=by have:=niff_eqb.1 h; exact this
   refine Wp.brn (fun h=>?_) (fun h=>?_)
   ·
    rw [if_pos (.inr (by have:=iff_eqb.1 h; exact this))]
    rfl
   ·
    exact hj _ ⟨⟨ha,by have:=niff_eqb.1 h; exact this⟩,rfl⟩
end Sym

/- The fees: the whole charge; both programs answer alike. -/
namespace Sym
open Go
def chg (g:I .u64×I .u64×I .i64) (lim ex:I .u64) (tip:U):CH :=
 (g.1,g.2.1,I.of .u64 (g5Y lim ex g.2.1:Int),I.of .u64 ((g.2.1.nat+g5Y lim ex g.2.1:Nat):Int),decide (g5Y lim ex g.2.1<ex.nat),tip,zU,zU,zU,zU,())
def f3W (data:List B8) (lim:I .u64) (cap base unit:U) (p:Prm):I .u64×I .u64×I .i64 :=
 if a8M p=false then (I.of .u64 0,I.of .u64 0,I.of .i64 15)
 else if base.val=0 then (I.of .u64 0,I.of .u64 0,I.of .i64 5)
 else if cap.val<base.val then (I.of .u64 0,I.of .u64 0,I.of .i64 12)
 else h6S data lim base unit p.2.2.2.2.2.2.2.2.2.2.1 p.2.2.2.2.2.2.2.2.2.2.2.1
def g9I (data:List B8) (lim ex:I .u64) (cap tip base unit:U) (p:Prm):CH×I .i64 :=
 if I.neb (f3W data lim cap base unit p).2.2 (I.of .i64 0)=true then (zCH,(f3W data lim cap base unit p).2.2)
 else g9Y (chg (f3W data lim cap base unit p) lim ex (U.of (min tip.val (cap.val-base.val)))) base p.2.2.2.2.2.1 p.2.2.2.2.2.2.1
theorem e7Q {p:Prm} (h:a8M p=true):p.2.2.2.2.2.2.1.nat≤10000:=by
 rw [d2P] at h
 have h7:=of_decide_eq_true (h 7 (by omega) (by omega))
 replace h7:(I.of .u64 0).nat≤(d3T p.2.2.2.2.2.2.1).val∧(d3T p.2.2.2.2.2.2.1).val≤(I.of .u64 10000).nat:=h7
 rw [c0S] at h7
 have e2:(I.of .u64 10000).nat=10000:=rfl
 rw [e2] at h7
 exact h7.2
theorem g9D {n:Nat} (h:n<18446744073709551616):n<65536^64:=Nat.lt_trans h (by decide)
theorem h2N {n:Nat} (h:n<20000*(U.top*18446744073709551616)):n<65536^64:=Nat.lt_trans h (by decide)
theorem bigB' {n:Nat} (h:n<U.top*18446744073709551616):n<65536^64:=Nat.lt_trans h (by decide)
theorem h3B (a:U) {x:Nat} (hx:x<18446744073709551616):a.val*x<U.top*18446744073709551616:=by
 have h1:a.val*x≤a.val*18446744073709551616:=Nat.mul_le_mul_left _ (Nat.le_of_lt hx)
 have h2:a.val*18446744073709551616<U.top*18446744073709551616:=Nat.mul_lt_mul_of_pos_right a.lt (by decide)
 omega
theorem f3Y (m n:Nat):I.ltb (c5W m n) (I.of .i64 0)=decide (m<n):=by
 unfold c5W
 by_cases h:m<n
 ·
  rw [if_pos h,decide_eq_true h]; rfl
 ·
  rw [if_neg h,decide_eq_false h]; split<;>rfl
theorem f4H (m n:Nat):I.ltb (I.of .i64 0) (c5W m n)=decide (n<m):=by
 unfold c5W
 by_cases h:m<n
 ·
  rw [if_pos h,decide_eq_false (by omega)]; rfl
 ·
  rw [if_neg h]
  by_cases h2:n<m
  ·
   rw [if_pos h2,decide_eq_true h2]; rfl
  ·
   rw [if_neg h2,decide_eq_false h2]; rfl
theorem f5D (f1 f2 f3 lim ex:I .u64) (data:List B8) (v cap tip base unit:U) (p:Prm) (hd:data.length≤100000000) :
  b5L K0 (((f1,f2,f3,v,lim,cap,tip,ex,data,()),base,unit,p,()),())=some (((f3W data lim cap base unit p).1,(f3W data lim cap base unit p).2.1,(f3W data lim cap base unit p).2.2,()),()):=by
 generalize hg:f3W data lim cap base unit p=R
 refine Wp.out (T:=fun o=>o=some ((R.1,R.2.1,R.2.2,()),())) ?_
 unfold f3W at hg
 unfold b5L
 refine Wp.optF (b8B p) ?_
 refine Wp.brn (fun h=>?_) (fun h=>?_)
 ·
  have h:a8M p=false:=b4H h
  rw [if_pos h] at hg
  rw [← hg]; rfl
 have hv:a8M p=true:=b4I h
 rw [if_neg (show ¬ a8M p=false by rw [hv]; simp)] at hg
 refine Wp.optF (c4K base) ?_
 refine Wp.brn (fun h=>?_) (fun h=>?_)
 ·
  have h:base.val=0:=of_decide_eq_true h
  rw [if_pos h] at hg
  rw [← hg]; rfl
 have h0:base.val≠0:=of_decide_eq_false h
 rw [if_neg h0] at hg
 have hcl:=cap.lt
 have hbl:=base.lt
 have hul:=unit.lt
 obtain ⟨l1,e1,b1⟩:=a1I cap
 obtain ⟨l2,e2,b2⟩:=a1I base
 refine Wp.optF e1 (Wp.optF e2 ?_)
 refine Wp.optF (c7T b1 b2 (a7G b1 (b6C (by omega))) (a7G b2 (b6C (by omega)))) ?_
 refine Wp.brn (fun h=>?_) (fun h=>?_)
 ·
  rw [f3Y] at h
  rw [if_pos (of_decide_eq_true h)] at hg
  rw [← hg]; rfl
 rw [f3Y] at h
 rw [if_neg (of_decide_eq_false h)] at hg
 refine Wp.optF (f7B data _ _ hd) ?_
 unfold h6S at hg
 generalize c5P data p.2.2.2.2.2.2.2.2.2.2.1 p.2.2.2.2.2.2.2.2.2.2.2.1=u at hg ⊢
 refine Wp.brn (fun h=>?_) (fun h=>?_)
 ·
  have h:I.neb u.2 (I.of .i64 0)=true:=h
  rw [if_pos h] at hg
  rw [← hg]; rfl
 have h:I.neb u.2 (I.of .i64 0)=false:=h
 rw [if_neg (show ¬ I.neb u.2 (I.of .i64 0)=true by rw [h]; simp)] at hg
 obtain ⟨l3,e3,b3⟩:=a1N u.1
 obtain ⟨l4,e4,b4⟩:=a1I unit
 have hu1:=a3A u.1
 have hm:=h3B unit hu1
 rw [Nat.mul_comm] at hm
 refine Wp.optF e3 (Wp.optF e4 ?_)
 obtain ⟨l5,e5,b5⟩:=b3I b3 b4 (a7G b3 (g9D hu1)) (a7G b4 (b6C (by omega)))
 have hl5:=a7G b5 (bigB' hm)
 refine Wp.optF e5 (Wp.optF (c5M b5 (Nat.lt_of_le_of_lt hl5 (by decide))) ?_)
 refine Wp.brn (fun h=>?_) (fun h=>?_)
 ·
  have h:=of_decide_eq_false (b4H h)
  rw [if_pos (by omega)] at hg
  rw [← hg]; rfl
 have h:=of_decide_eq_true (b4I h)
 rw [if_neg (by omega)] at hg
 refine Wp.optF e2 ?_
 obtain ⟨l6,l7,e6,b6,b7⟩:=c7V b5 b2 h0 hl5 (Nat.le_trans (b2.len.2 (Nat.lt_of_lt_of_le base.lt (Nat.le_of_eq top_pow'))) (by decide))
 have hq:u.1.nat*unit.val / base.val<U.top:=Nat.lt_of_le_of_lt (Nat.div_le_self _ _) (by omega)
 generalize u.1.nat*unit.val / base.val=q at hg hq b6 ⊢
 refine Wp.optF e6 ?_
 obtain ⟨l8,e8,b8⟩:=a1N lim
 have hlim:=a3A lim
 refine Wp.optF e8 ?_
 refine Wp.optF (c7T b6 b8 (a7G b6 (b6C (by omega))) (a7G b8 (g9D (by omega)))) ?_
 refine Wp.brn (fun h=>?_) (fun h=>?_)
 ·
  rw [f4H] at h
  rw [if_pos (of_decide_eq_true h)] at hg
  rw [← hg]; rfl
 rw [f4H] at h
 have h:=of_decide_eq_false h
 rw [if_neg h] at hg
 refine Wp.optF (a3C b6 hq) ?_
 rw [← hg]
 show some ((u.1,(U.of q).1,I.of .i64 0,()),())=_
 rw [h5Z (by omega)]
theorem e8F (f1 f2 f3 lim ex:I .u64) (data:List B8) (v cap tip base unit:U) (p:Prm) (hd:data.length≤100000000) :
  b0J K0 (((f1,f2,f3,v,lim,cap,tip,ex,data,()),base,unit,p,()),())=some (((g9I data lim ex cap tip base unit p).1,(g9I data lim ex cap tip base unit p).2,()),()):=by
 generalize hg:g9I data lim ex cap tip base unit p=R
 refine Wp.out (T:=fun o=>o=some ((R.1,R.2,()),())) ?_
 unfold g9I at hg
 unfold b0J
 refine Wp.optF (f5D f1 f2 f3 lim ex data v cap tip base unit p hd) ?_
 have hprem:I.neb (f3W data lim cap base unit p).2.2 (I.of .i64 0)=false→a8M p=true∧base.val≤cap.val∧(f3W data lim cap base unit p).2.1.nat≤lim.nat:=by
  intro h
  unfold f3W h6S at h ⊢
  split at h
  ·
   exact absurd h (by decide)
  ·
   rename_i hv
   rw [if_neg hv]
   split at h
   ·
    exact absurd h (by decide)
   ·
    rename_i h0
    rw [if_neg h0]
    split at h
    ·
     exact absurd h (by decide)
    ·
     rename_i hc
     rw [if_neg hc]
     split at h
     ·
      rename_i hu
      exact absurd (h.symm.trans hu) (by decide)
     ·
      rename_i hu
      rw [if_neg hu]
      split at h
      ·
       exact absurd h (by decide)
      ·
       rename_i ht
       rw [if_neg ht]
       split at h
       ·
        exact absurd h (by decide)
       ·
        rename_i hq
        rw [if_neg hq]
        refine ⟨by simpa using hv,Nat.le_of_not_lt hc,?_⟩
        have:=a3A lim
        show (I.of .u64 (_:Int)).nat≤_
        rw [b7N (by omega)]
        omega
 generalize f3W data lim cap base unit p=g at hg hprem ⊢
 obtain ⟨u,po,er⟩:=g
 refine Wp.brn (fun h=>?_) (fun h=>?_)
 ·
  have h:I.neb er (I.of .i64 0)=true:=h
  rw [if_pos h] at hg
  rw [← hg]; rfl
 have h:I.neb er (I.of .i64 0)=false:=h
 obtain ⟨hv,hc,hpo⟩:=hprem h
 simp only at hpo
 rw [if_neg (show ¬ I.neb ((u,po,er):I .u64×I .u64×I .i64).2.2 (I.of .i64 0)=true by rw [show I.neb ((u,po,er):I .u64×I .u64×I .i64).2.2 (I.of .i64 0)=false from h]; simp)] at hg
 have hb:=e7Q hv
 have hlim:=a3A lim
 have hex:=a3A ex
 have hcl:=cap.lt
 have hbl:=base.lt
 have htl:=tip.lt
 obtain ⟨E,hE⟩:∃ E,E=g5Y lim ex po:=⟨_,rfl⟩
 have hEl:E≤lim.nat-po.nat:=by rw [hE]; unfold g5Y; omega
 have hEn:(I.of .u64 (E:Int)).nat=E:=b7N (by omega)
 refine Wp.jn (fun x=>x=((po,()),((f1,f2,f3,v,lim,cap,tip,ex,data,()),base,p,zCH,(u,po,I.of .u64 (E:Int),I.of .u64 0,decide (E<ex.nat),zU,zU,zU,zU,zU,()),()))) ?_ ?_
 ·
  rintro x rfl
  unfold g9Y chg at hg
  simp only at hg
  rw [← hE] at hg
  rw [hEn,b7N (n:=po.nat+E) (by omega)] at hg
  obtain ⟨l2,e2,b2⟩:=a1I base
  obtain ⟨l3,e3,b3⟩:=g3Q f1 f2 f3 lim ex data v cap tip base hc
  obtain ⟨l4,e4,b4⟩:=a1N po
  have hpo64:=a3A po
  have hl2:=a7G b2 (b6C (by omega))
  have hl4:=a7G b4 (g9D hpo64)
  have hm1:=h3B base hpo64
  refine Wp.optF e2 (Wp.optF e3 (Wp.optF e4 ?_))
  obtain ⟨l5,e5,b5⟩:=b3I b2 b4 hl2 hl4
  have hl5:=a7G b5 (bigB' hm1)
  refine Wp.optF e5 ?_
  obtain ⟨l6,e6,b6⟩:=a1N (I.of .u64 (E:Int))
  rw [hEn] at b6
  have hE64:E<18446744073709551616:=by omega
  have hl6:=a7G b6 (g9D hE64)
  refine Wp.optF e6 ?_
  obtain ⟨l7,e7,b7⟩:=b3I b2 b6 hl2 hl6
  have hm2:=h3B base hE64
  have hl7:=a7G b7 (bigB' hm2)
  refine Wp.optF e7 ?_
  obtain ⟨l8,e8,b8⟩:=a1I p.2.2.2.2.2.1
  have hil:=U.lt p.2.2.2.2.2.1
  have hl8:=a7G b8 (b6C (by omega))
  refine Wp.optF e8 ?_
  obtain ⟨l9,e9,b9⟩:=f5T b8 b2 hl8 hl2
  have hl9:=a7G b9 (b6C (by omega))
  refine Wp.optF e9 (Wp.optF e6 ?_)
  obtain ⟨l11,e11,b11⟩:=b3I b9 b6 hl9 hl6
  have hinf:min (U.val p.2.2.2.2.2.1) base.val*E≤base.val*E:=Nat.mul_le_mul_right _ (Nat.min_le_right _ _)
  refine Wp.optF e11 ?_
  obtain ⟨l12,e12,b12⟩:=d0K b7 b11 hinf hl7
  have hl12:=a7G b12 (h2N (by omega))
  have hnet:base.val*E-min (U.val p.2.2.2.2.2.1) base.val*E=g3U base p.2.2.2.2.2.1 E:=rfl
  rw [hnet] at b12
  refine Wp.optF e12 ?_
  obtain ⟨l13,e13,b13⟩:=a1N p.2.2.2.2.2.2.1
  have hl13:=a7G b13 (g9D (by omega))
  refine Wp.optF e13 ?_
  obtain ⟨l14,e14,b14⟩:=b3I b12 b13 hl12 hl13
  have hm3:g3U base p.2.2.2.2.2.1 E*p.2.2.2.2.2.2.1.nat≤g3U base p.2.2.2.2.2.1 E*10000:=Nat.mul_le_mul_left _ hb
  have hl14:=a7G b14 (h2N (by omega))
  refine Wp.optF e14 ?_
  obtain ⟨l15,e15,b15⟩:=a1N (I.of .u64 10000)
  have e10k:(I.of .u64 10000).nat=10000:=rfl
  rw [e10k] at b15
  refine Wp.optF e15 ?_
  obtain ⟨l16,l16',e16,b16,_⟩:=c7V b14 b15 (by decide) hl14 (Nat.le_trans ((IsB.len b15 (k:=1)).2 (by decide)) (by decide))
  have hburn:g3U base p.2.2.2.2.2.1 E*p.2.2.2.2.2.2.1.nat / 10000=f6S base p.2.2.2.2.2.1 p.2.2.2.2.2.2.1 E:=rfl
  rw [hburn] at b16
  have hbl2:f6S base p.2.2.2.2.2.1 p.2.2.2.2.2.2.1 E≤g3U base p.2.2.2.2.2.1 E:=g3E _ _ hb
  refine Wp.optF e16 ?_
  obtain ⟨l17,e17,b17⟩:=d0K b12 b16 hbl2 hl12
  refine Wp.optF e17 ?_
  have eadd:I.add po (I.of .u64 (E:Int))=I.of .u64 ((po.nat+E:Nat):Int):=by
   apply e7R
   rw [c8G _ _ (by omega),hEn,b7N (by omega)]
  obtain ⟨l18,e18,b18⟩:=a1N (I.add po (I.of .u64 (E:Int)))
  rw [c8G _ _ (by omega),hEn] at b18
  refine Wp.optF e18 ?_
  have hl18:=a7G b18 (g9D (by omega))
  have hl3:=a7G b3 (b6C (by omega))
  obtain ⟨l19,e19,b19⟩:=b3I b3 b18 hl3 hl18
  have hm4:min tip.val (cap.val-base.val)*(po.nat+E)≤cap.val*(po.nat+E):=Nat.mul_le_mul_right _ (by omega)
  have hm5:=h3B cap (x:=po.nat+E) (by omega)
  have hl19:=a7G b19 (h2N (by omega))
  refine Wp.optF e19 ?_
  obtain ⟨l20,e20,b20⟩:=b3H b17 b19 (a7G b17 (h2N (by omega))) hl19
  have hrest:g3U base p.2.2.2.2.2.1 E-f6S base p.2.2.2.2.2.1 p.2.2.2.2.2.2.1 E+min tip.val (cap.val-base.val)*(po.nat+E)=g2U base p.2.2.2.2.2.1 (U.of (min tip.val (cap.val-base.val))) p.2.2.2.2.2.2.1 E (po.nat+E):=by
   unfold g2U
   rw [U.val_of (by omega)]
  have hl20:=a7G b20 (h2N (by omega))
  rw [hrest] at b20
  refine Wp.optF e20 (Wp.jnZ ?_)
  refine Wp.optF (c5M b5 (Nat.lt_of_le_of_lt hl5 (by decide))) ?_
  refine Wp.brn (fun h=>?_) (fun h=>?_)
  ·
   have h:=of_decide_eq_false (b4H h)
   rw [if_pos (.inl (by omega))] at hg
   rw [← hg]; rfl
  have h1:=of_decide_eq_true (b4I h)
  refine Wp.optF (c5M b7 (Nat.lt_of_le_of_lt hl7 (by decide))) ?_
  refine Wp.brn (fun h=>?_) (fun h=>?_)
  ·
   have h:=of_decide_eq_false (b4H h)
   rw [if_pos (.inr (.inl (by omega)))] at hg
   rw [← hg]; rfl
  have h2:=of_decide_eq_true (b4I h)
  refine Wp.optF (c5M b20 (Nat.lt_of_le_of_lt hl20 (by decide))) ?_
  refine Wp.brn (fun h=>?_) (fun h=>?_)
  ·
   have h:=of_decide_eq_false (b4H h)
   rw [if_pos (.inr (.inr (by omega)))] at hg
   rw [← hg]; rfl
  have h3:=of_decide_eq_true (b4I h)
  rw [if_neg (by rintro (h | h | h)<;>omega)] at hg
  refine Wp.optF (a3C b3 (by omega)) (Wp.optF (a3C b5 h1) (Wp.optF (a3C b11 (by omega)) (Wp.optF (a3C b16 (by omega)) (Wp.optF (a3C b20 h3) ?_))))
  rw [← hg,← eadd]
  rfl
 ·
  intro j hj
  have es:(I.sub lim po).nat=lim.nat-po.nat:=f2G _ _ hpo
  refine Wp.brn (fun h=>?_) (fun h=>?_)
  ·
   rw [c5K] at h
   have h:(I.sub lim po).nat<ex.nat:=of_decide_eq_true h
   rw [es] at h
   have hEe:E=lim.nat-po.nat:=by rw [hE]; unfold g5Y; omega
   have e1:I.sub lim po=I.of .u64 (E:Int):=e7R (by rw [es,hEn,hEe])
   refine hj _ ?_
   rw [show decide (E<ex.nat)=true from decide_eq_true (by omega),← e1]
   rfl
  ·
   rw [c5K] at h
   have h:¬ (I.sub lim po).nat<ex.nat:=of_decide_eq_false h
   rw [es] at h
   have hEe:E=ex.nat:=by rw [hE]; unfold g5Y; omega
   have e1:ex=I.of .u64 (E:Int):=e7R (by rw [hEn,hEe])
   refine hj _ ?_
   rw [show decide (E<ex.nat)=false from decide_eq_false (by omega),← e1]
   rfl
end Sym

/- The fees: what is built, what a charge without an error is. -/
namespace Sym
open Go
end Sym

/- The laws of the fees. -/
namespace Sym
open Go
end Sym

/- The base fee of the reference, blocks, parameters. -/
namespace Sym
open Go
theorem e3E {l:List Dg} {a:I .u64} (h:IsB l a.nat):l.length≤1000000:=b4X h (k:=4) (Nat.lt_of_lt_of_le (a3A a) (by decide)) (by decide)
def P40:Nat:=65536^40
theorem h9U {l:List Dg} {n:Nat} (h:IsB l n) (hn:n<P40):l.length≤900000:=Nat.le_trans (h.len.2 hn) (by decide)
theorem lenK' {l:List Dg} {n:Nat} (h:IsB l n) (hn:n<P40):l.length≤1000000:=Nat.le_trans (h9U h hn) (by decide)
theorem g0K (m n:Nat):I.leb (c5W m n) (I.of .i64 0)=decide (m≤n):=by
 unfold c5W
 by_cases h:m<n
 ·
  rw [if_pos h,decide_eq_true (by omega)]; rfl
 ·
  rw [if_neg h]
  by_cases h2:n<m
  ·
   rw [if_pos h2,decide_eq_false (by omega)]; rfl
  ·
   rw [if_neg h2,decide_eq_true (by omega)]; rfl
theorem d4P (a b:I .u64):a.nat*b.nat<65536^8:=by
 have h1:=a3A a
 have h2:=a3A b
 have:a.nat*b.nat≤18446744073709551616*18446744073709551616-1:=by
  have:=Nat.mul_le_mul (show a.nat≤18446744073709551615 by omega) (show b.nat≤18446744073709551615 by omega)
  omega
 have e:(65536^8:Nat)=18446744073709551616*18446744073709551616:=by decide
 omega
theorem f7F (a b c:I .u64):b0U K0 ((a,(b,(c,()))),())=some ((I.of .u64 ((a.nat-b.nat*c.nat:Nat):Int),()),()):=by
 refine Wp.out (T:=fun o=>o=some ((I.of .u64 ((a.nat-b.nat*c.nat:Nat):Int),()),())) ?_
 unfold b0U
 obtain ⟨r0,e0,B0⟩:=a1N a
 obtain ⟨r1,e1,B1⟩:=a1N b
 obtain ⟨r2,e2,B2⟩:=a1N c
 obtain ⟨r3,e3,B3⟩:=b3I B1 B2 (e3E B1) (e3E B2)
 have h3:=d4P b c
 have l3:=b4X B3 h3 (by decide)
 have e4:=c7T B0 B3 (e3E B0) l3
 refine Wp.optF e0 (Wp.optF e1 (Wp.optF e2 (Wp.optF e3 (Wp.optF e4 ?_))))
 have hc:=g0K a.nat (b.nat*c.nat)
 have ha:=a3A a
 refine Wp.brn (fun h=>?_) (fun h=>?_)
 ·
  have h:I.leb (c5W a.nat (b.nat*c.nat)) (I.of .i64 0)=true:=h
  rw [hc] at h
  rw [show a.nat-b.nat*c.nat=0 by have:=of_decide_eq_true h; omega]
  rfl
 ·
  have h:I.leb (c5W a.nat (b.nat*c.nat)) (I.of .i64 0)=false:=h
  rw [hc] at h
  have h:=of_decide_eq_false h
  obtain ⟨r5,e5,B5⟩:=d0K B0 B3 (by omega) (e3E B0)
  have e6:=c7L B5 (b4X B5 (k:=4) (Nat.lt_of_le_of_lt (Nat.sub_le _ _) (Nat.lt_of_lt_of_le ha (by decide))) (by decide))
  refine Wp.optF e5 (Wp.optF e6 ?_)
  show some (((U.of _).1,()),())=_
  rw [f6N (by omega)]
def g7R (p:Prm):Prop:=p.1.nat≠0∧p.2.2.1.nat≠0
theorem e3J {p:Prm} (h:a8M p=true):g7R p:=by
 rw [d2P] at h
 have h1:=h 1 (by omega) (by omega)
 have h3:=h 3 (by omega) (by omega)
 have h1:=of_decide_eq_true h1
 have h3:=of_decide_eq_true h3
 replace h1:(I.of .u64 1).nat≤(d3T p.1).val∧_:=h1
 replace h3:(I.of .u64 1).nat≤(d3T p.2.2.1).val∧_:=h3
 rw [c0S] at h1 h3
 have c1:(I.of .u64 1).nat=1:=rfl
 constructor<;>omega
def d3R (b:I .u64) (p:Prm):Nat:=min ((b.nat-p.1.nat*p.2.1.nat)*10000 / (p.2.2.1.nat*p.1.nat)) 200000
theorem e7Y (b:I .u64) (p:Prm):a9Y K0 ((b,(p,())),())=some (((if a8M p=true then I.of .u64 ((d3R b p:Nat):Int) else I.of .u64 0),((if a8M p=true then I.of .i64 0 else I.of .i64 15),())),()):=by
 refine Wp.out (T:=fun o=>o=some (((if a8M p=true then I.of .u64 ((d3R b p:Nat):Int) else I.of .u64 0),((if a8M p=true then I.of .i64 0 else I.of .i64 15),())),())) ?_
 unfold a9Y
 refine Wp.optF (b8B p) ?_
 by_cases hv:a8M p=true
 ·
  rw [if_pos hv,if_pos hv]
  refine Wp.brnF (by rw [hv]; rfl) ?_
  have hex:b1H K0 ((b,(p.1,(p.2.1,()))),())=some ((I.of .u64 ((b.nat-p.1.nat*p.2.1.nat:Nat):Int),()),()):=by
   refine Wp.out (T:=fun o=>o=some ((I.of .u64 ((b.nat-p.1.nat*p.2.1.nat:Nat):Int),()),())) ?_
   unfold b1H
   exact Wp.optF (f7F b p.1 p.2.1) rfl
  have hb:=a3A b
  have hxn:(I.of .u64 ((b.nat-p.1.nat*p.2.1.nat:Nat):Int)).nat=b.nat-p.1.nat*p.2.1.nat:=b7N (by omega)
  obtain ⟨r2,e2,B2⟩:=a1N (I.of .u64 ((b.nat-p.1.nat*p.2.1.nat:Nat):Int))
  obtain ⟨r3,e3,B3⟩:=a1N (I.of .u64 10000)
  obtain ⟨r4,e4,B4⟩:=b3I B2 B3 (e3E B2) (e3E B3)
  obtain ⟨r5,e5,B5⟩:=a1N p.2.2.1
  obtain ⟨r6,e6,B6⟩:=a1N p.1
  obtain ⟨r7,e7,B7⟩:=b3I B5 B6 (e3E B5) (e3E B6)
  have h4:=d4P (I.of .u64 ((b.nat-p.1.nat*p.2.1.nat:Nat):Int)) (I.of .u64 10000)
  have h7:=d4P p.2.2.1 p.1
  obtain ⟨s1,s3⟩:=e3J hv
  obtain ⟨q,rr,e8,B8,_⟩:=c7V B4 B7 (Nat.mul_ne_zero s3 s1) (b4X B4 h4 (by decide)) (Nat.le_trans (B7.len.2 h7) (by decide))
  obtain ⟨r9,e9,B9⟩:=a1N (I.of .u64 200000)
  have hq:(I.of .u64 ((b.nat-p.1.nat*p.2.1.nat:Nat):Int)).nat*(I.of .u64 10000).nat / (p.2.2.1.nat*p.1.nat)<65536^8:=Nat.lt_of_le_of_lt (Nat.div_le_self _ _) h4
  obtain ⟨y,e10,r10,rfl,B10⟩:=e8M B8 B9 (b4X B8 hq (by decide)) (e3E B9)
  have c1:(I.of .u64 10000).nat=10000:=rfl
  have c2:(I.of .u64 200000).nat=200000:=rfl
  rw [hxn,c1,c2] at B10
  have hm:min ((b.nat-p.1.nat*p.2.1.nat)*10000 / (p.2.2.1.nat*p.1.nat)) 200000≤200000:=Nat.min_le_right _ _
  have e11:=c7L B10 (b4X B10 (k:=2) (Nat.lt_of_le_of_lt hm (by decide)) (by decide))
  refine Wp.optF hex (Wp.optF e2 (Wp.optF e3 (Wp.optF e4 (Wp.optF e5 (Wp.optF e6 (Wp.optF e7 (Wp.optF e8 (Wp.optF e9 (Wp.optF e10 (Wp.optF e11 ?_))))))))))
  show some (((U.of _).1,_),())=_
  rw [f6N (by omega)]
  rfl
 ·
  rw [if_neg hv,if_neg hv]
  have hv:a8M p=false:=by cases h:a8M p with | true=>exact absurd h hv | false=>rfl
  exact Wp.brnT (by rw [hv]; rfl) rfl
end Sym

/- The exponential, the base fee, blocks. -/
namespace Sym
open Go
def h3D (x:Nat):Nat→Nat→Nat
 | 0,y=>y
 | k+1,y=>h3D x k (10000+y*x / ((k+1)*10000))
def f9B (x b:Nat):Nat:=h3D x b 10000
def pwE (j:Nat):Nat:=2^(20*(j+1))
theorem f0U (j:Nat):pwE (j+1)=pwE j*1048576:=by
 unfold pwE
 rw [show 20*(j+1+1)=20*(j+1)+20 by omega,Nat.pow_add]
theorem f5M (j:Nat):0<pwE j:=Nat.pow_pos (by decide)
theorem e8W:∀ (n j:Nat),pwE j≤pwE (j+n)
 | 0,_=>Nat.le_refl _
 | n+1,j=>by
  have h1:=e8W n j
  have h2:=f0U (j+n)
  have h3:=f5M (j+n)
  rw [← Nat.add_assoc,h2]
  omega
theorem h7D:pwE 20*200000<P40:=by
 decide +kernel
theorem h7P {j:Nat} (h:j≤20):pwE j*200000<P40:=by
 have h1:=e8W (20-j) j
 rw [show j+(20-j)=20 by omega] at h1
 exact Nat.lt_of_le_of_lt (Nat.mul_le_mul_right _ h1) h7D
theorem f5I {y x k j:Nat} (hx:x≤200000) (hy:y<pwE j):10000+y*x / ((k+1)*10000)<pwE (j+1):=by
 have h1:y*x / ((k+1)*10000)≤y*x:=Nat.div_le_self _ _
 have h2:y*x≤(pwE j-1)*200000:=Nat.mul_le_mul (by omega) hx
 have e:=f0U j
 have hp:=f5M j
 generalize pwE j=P at *
 omega
theorem g9Z (a:I .u64) (b:Nat) (hb:1≤b) (hb2:b≤20):b6P K0 ((a,(i6 b,())),())=some ((if a.nat≤200000 then (U.of (f9B a.nat b)).1 else I.of .u64 0,(if a.nat≤200000 then I.of .i64 0 else I.of .i64 2,())),()):=by
 refine Wp.out (T:=fun o=>o=some ((if a.nat≤200000 then (U.of (f9B a.nat b)).1 else I.of .u64 0,(if a.nat≤200000 then I.of .i64 0 else I.of .i64 2,())),())) ?_
 unfold b6P
 have c2:(I.of .u64 200000).nat=200000:=rfl
 refine Wp.jn (fun x=>a.nat≤200000∧x=((a,(i6 b,())),())) ?_ ?_
 ·
  rintro x ⟨ha,rfl⟩
  rw [if_pos ha,if_pos ha]
  obtain ⟨r1,e1,B1⟩:=a1N (I.of .u64 10000)
  have c1:(I.of .u64 10000).nat=10000:=rfl
  refine Wp.optF e1 ?_
  refine Wp.iter (fun s=>∃ (k j y:Nat) (r:List Dg),s=((a,(r,(i6 k,()))),())∧k+j=b∧IsB r y∧y<pwE j∧h3D a.nat k y=f9B a.nat b) (fun s=>s.1.2.2.1.val.toNat) ?_ ⟨b,0,_,r1,rfl,rfl,B1,by rw [c1]; decide +kernel,by rw [c1]; rfl⟩ (by rw [a6Z]; show (i6 b).val.toNat<_; rw [a0Q (by omega)]; omega)
  rintro s ⟨k,j,y,r,rfl,hk,hB,hy,he⟩
  have hpw:=h7P (show j≤20 by omega)
  have hyx:y*a.nat<P40:=by
   have h2:y*a.nat≤pwE j*200000:=Nat.mul_le_mul (Nat.le_of_lt hy) ha
   omega
  have hy40:y<P40:=by
   have:pwE j*1≤pwE j*200000:=Nat.mul_le_mul_left _ (by decide)
   omega
  refine Wp.brn (fun hc=>?_) (fun hc=>?_)
  ·
   have hc:1≤k:=by have:=iff_leb.1 hc; simp only [a0Q (show k<9223372036854775808 by omega),show (I.of .i64 1).val=1 from rfl] at this; omega
   obtain ⟨k',rfl⟩:∃ k',k=k'+1:=⟨k-1,by omega⟩
   obtain ⟨r3,e3,B3⟩:=a1N a
   obtain ⟨r4,e4,B4⟩:=b3I hB B3 (lenK' hB hy40) (e3E B3)
   have hcv:I.conv .u64 (i6 (k'+1))=I.of .u64 ((k'+1:Nat):Int):=by
    unfold I.conv
    rw [a0Q (by omega)]
   have hkn:(I.of .u64 ((k'+1:Nat):Int)).nat=k'+1:=b7N (by omega)
   obtain ⟨r5,e5,B5⟩:=a1N (I.of .u64 ((k'+1:Nat):Int))
   obtain ⟨r7,e7,B7⟩:=b3I B5 B1 (e3E B5) (e3E B1)
   have h7:=d4P (I.of .u64 ((k'+1:Nat):Int)) (I.of .u64 10000)
   rw [hkn,c1] at B7 h7
   obtain ⟨q,rr,e8,B8,_⟩:=c7V B4 B7 (by omega) (lenK' B4 hyx) (Nat.le_trans (B7.len.2 h7) (by decide))
   have h8:y*a.nat / ((k'+1)*10000)<P40:=Nat.lt_of_le_of_lt (Nat.div_le_self _ _) hyx
   obtain ⟨r10,e10,B10⟩:=b3H B1 B8 (e3E B1) (lenK' B8 h8)
   rw [c1] at B10
   have e5':a0H K0 ((I.conv .u64 (i6 (k'+1)),()),())=some ((r5,()),()):=by rw [hcv]; exact e5
   refine Wp.optF e3 (Wp.optF e4 (Wp.optF e5' (Wp.optF e1 (Wp.optF e7 (Wp.optF e8 (Wp.optF e1 (Wp.optF e10 ?_)))))))
   have hs:I.sub (i6 (k'+1)) (I.of .i64 1)=i6 k':=by rw [b5U,c2V (by omega) (by omega)]; rfl
   have he':h3D a.nat k' (10000+y*a.nat / ((k'+1)*10000))=f9B a.nat b:=he
   have hst:=f5I (k:=k') ha hy
   generalize 10000+y*a.nat / ((k'+1)*10000)=z at B10 he' hst
   refine Wp.again ⟨k',j+1,z,r10,by show ((a,(r10,(I.sub (i6 (k'+1)) (I.of .i64 1),()))),())=_; rw [hs]; rfl,by omega,B10,hst,he'⟩ (by show (I.sub (i6 (k'+1)) (I.of .i64 1)).val.toNat<(i6 (k'+1)).val.toNat; rw [hs,a0Q (by omega),a0Q (by omega)]; omega)
  ·
   have hc:k=0:=by have:=niff_leb.1 hc; simp only [a0Q (show k<9223372036854775808 by omega),show (I.of .i64 1).val=1 from rfl] at this; omega
   subst hc
   have e:=c7L hB (lenK' hB hy40)
   have he:y=f9B a.nat b:=he
   rw [he] at e
   exact Wp.done (Wp.optF e rfl)
 ·
  intro j hj
  refine Wp.brn (fun h=>?_) (fun h=>?_)
  ·
   have h:(I.of .u64 200000).val<a.val:=iff_ltb.1 h
   have h1:=a2G a
   have h2:(I.of .u64 200000).val=200000:=rfl
   rw [if_neg (by omega),if_neg (by omega)]
   rfl
  ·
   have h:a.val≤(I.of .u64 200000).val:=niff_ltb.1 h
   have h1:=a2G a
   have h2:(I.of .u64 200000).val=200000:=rfl
   refine Wp.brnF (niff_ltb.2 (by show (I.of .i64 1).val≤(i6 b).val; rw [a0Q (by omega),show (I.of .i64 1).val=1 from rfl]; omega)) ?_
   refine Wp.brnF (niff_ltb.2 (by show (i6 b).val≤(I.of .i64 20).val; rw [a0Q (by omega),show (I.of .i64 20).val=20 from rfl]; omega)) ?_
   exact hj _ ⟨by omega,rfl⟩
theorem f9K (a:U) (b:I .u64):b4D K0 ((a,(b,())),())=some (((c9B (a.val*b.nat / 10000)).1,((c9B (a.val*b.nat / 10000)).2,())),()):=by
 refine Wp.out (T:=fun o=>o=some (((c9B (a.val*b.nat / 10000)).1,((c9B (a.val*b.nat / 10000)).2,())),())) ?_
 unfold b4D
 obtain ⟨r0,e0,B0⟩:=a1I a
 obtain ⟨r1,e1,B1⟩:=a1N b
 obtain ⟨r2,e2,B2⟩:=b3I B0 B1 (f2J B0) (e3E B1)
 obtain ⟨r3,e3,B3⟩:=a1N (I.of .u64 10000)
 have c1:(I.of .u64 10000).nat=10000:=rfl
 have h2:a.val*b.nat<P40:=by
  have h3:a.val*b.nat≤U.top*18446744073709551616:=Nat.mul_le_mul (Nat.le_of_lt (U.lt a)) (Nat.le_of_lt (a3A b))
  exact Nat.lt_of_le_of_lt h3 (by decide +kernel)
 rw [c1] at B3
 obtain ⟨q,rr,e4,B4,_⟩:=c7V B2 B3 (by decide) (lenK' B2 h2) (Nat.le_trans (B3.len.2 (show 10000<65536^1 by decide)) (by decide))
 have e5:=Checked_ok' B4 (lenK' B4 (Nat.lt_of_le_of_lt (Nat.div_le_self _ _) h2))
 exact Wp.optF e0 (Wp.optF e1 (Wp.optF e2 (Wp.optF e3 (Wp.optF e4 (Wp.optF e5 rfl)))))
noncomputable def d5A (b:I .u64) (p:Prm):U×I .i64 :=
 if a8M p=true then c9B (U.val p.2.2.2.1*(U.of (f9B (d3R b p) 10)).1.nat / 10000) else (Z_U,I.of .i64 15)
theorem e0O (b:I .u64) (p:Prm):d3R b p≤200000:=Nat.min_le_right _ _
theorem h1Z (b:I .u64) (p:Prm):b2A K0 ((b,(p,())),())=some (((d5A b p).1,((d5A b p).2,())),()):=by
 refine Wp.out (T:=fun o=>o=some (((d5A b p).1,((d5A b p).2,())),())) ?_
 unfold b2A d5A
 refine Wp.optF (e7Y b p) ?_
 by_cases hv:a8M p=true
 ·
  rw [if_pos hv,if_pos hv,if_pos hv]
  refine Wp.brnF (show I.neb (I.of .i64 0) (I.of .i64 0)=false by decide) ?_
  have hx:(I.of .u64 ((d3R b p:Nat):Int)).nat=d3R b p:=b7N (by have:=e0O b p; omega)
  have hE:=g9Z (I.of .u64 ((d3R b p:Nat):Int)) 10 (by omega) (by omega)
  rw [hx,if_pos (e0O b p),if_pos (e0O b p)] at hE
  have hS:b0M K0 ((p.2.2.2.1,(I.of .u64 ((d3R b p:Nat):Int),(I.of .i64 10,()))),())=some (((c9B (U.val p.2.2.2.1*(U.of (f9B (d3R b p) 10)).1.nat / 10000)).1,((c9B (U.val p.2.2.2.1*(U.of (f9B (d3R b p) 10)).1.nat / 10000)).2,())),()):=by
   refine Wp.out (T:=fun o=>o=some (((c9B (U.val p.2.2.2.1*(U.of (f9B (d3R b p) 10)).1.nat / 10000)).1,((c9B (U.val p.2.2.2.1*(U.of (f9B (d3R b p) 10)).1.nat / 10000)).2,())),())) ?_
   unfold b0M
   exact Wp.optF hE (Wp.brnF (show I.neb (I.of .i64 0) (I.of .i64 0)=false by decide) (Wp.optF (f9K _ _) rfl))
  exact Wp.optF hS rfl
 ·
  rw [if_neg hv,if_neg hv,if_neg hv]
  exact Wp.brnT (show I.neb (I.of .i64 15) (I.of .i64 0)=true by decide) rfl
abbrev g3F:Type:=b1O
noncomputable def c7R (k:g3F) (sec left:I .u64) (p:Prm):g3F×I .i64 :=
 if 1≤sec.val∧sec.val≤1048576 then
  if (d5A left p).2.val≠0 then (a4G,(d5A left p).2)
  else if (I.add k.1 (I.of .u64 1)).val=0 then (a4G,I.of .i64 4)
  else if (I.add k.2.1 sec).val<k.2.1.val then (a4G,I.of .i64 4)
  else ((I.add k.1 (I.of .u64 1),(I.add k.2.1 sec,(I.of .u64 0,((d5A left p).1,())))),I.of .i64 0)
 else (a4G,I.of .i64 2)
theorem g2M (k:g3F) (sec left:I .u64) (p:Prm):b3X K0 ((k,(sec,(left,(p,())))),())=some (((c7R k sec left p).1,((c7R k sec left p).2,())),()):=by
 refine Wp.out (T:=fun o=>o=some (((c7R k sec left p).1,((c7R k sec left p).2,())),())) ?_
 unfold b3X c7R
 have c1:(I.of .u64 1).val=1:=rfl
 have c2:(I.of .u64 1048576).val=1048576:=rfl
 refine Wp.jn (fun x=>(1≤sec.val∧sec.val≤1048576)∧x=((sec,(left,())),(k,(p,(a4G,()))))) ?_ ?_
 ·
  rintro x ⟨hs,rfl⟩
  rw [if_pos hs]
  refine Wp.optF (h1Z left p) ?_
  refine Wp.brn (fun h=>?_) (fun h=>?_)
  ·
   have h:(d5A left p).2.val≠0:=iff_neb.1 h
   simp only [if_pos h]
   rfl
  ·
   have h:¬ (d5A left p).2.val≠0:=by have h:(d5A left p).2.val=0:=niff_neb.1 h; omega
   simp only [if_neg h]
   refine Wp.brn (fun h=>?_) (fun h=>?_)
   ·
    rw [if_pos (by have:=iff_eqb.1 h; exact this)]
    rfl
   ·
    rw [if_neg (by have:=niff_eqb.1 h; exact this)]
    refine Wp.brn (fun h=>?_) (fun h=>?_)
    ·
     rw [if_pos (by have:=iff_ltb.1 h; exact this)]
     rfl
    ·
     rw [if_neg (by have:=niff_ltb.1 h; omega)]
     rfl
 ·
  intro j hj
  refine Wp.brn (fun h=>?_) (fun h=>?_)
  ·
   have h:=iff_ltb.1 h
   rw [if_neg (by simp only [c1] at h; omega)]
   rfl
  ·
   have h:=niff_ltb.1 h
   refine Wp.brn (fun h2=>?_) (fun h2=>?_)
   ·
    have h2:=iff_ltb.1 h2
    rw [if_neg (by simp only [c2] at h2; omega)]
    rfl
   ·
    have h2:=niff_ltb.1 h2
    exact hj _ ⟨by simp only [c1,c2] at h h2; omega,rfl⟩
end Sym

/- Hashes and trees of the reference: they end. -/
namespace Sym
open Go
def Tot {Y:Type} (o:Option Y):Prop:=∃ y,o=some y
theorem Wp.tot {R Y:Type} {T:R→Prop} {fail:R} {o:Option Y} {k:Y→R} (ho:Tot o) (h:∀ y,Wp T (k y)):Wp T (Sym.optF fail o k):=by
 obtain ⟨y,rfl⟩:=ho
 exact h y
abbrev Hs:Type:=a0D
theorem c0P {X:Type} (l:List X) (a n:Nat):(a3T l a n).length=min n (l.length-a):=by
 unfold a3T
 rw [List.length_take,List.length_drop]
theorem b4U (a:I .u32) (b:I .u64):Tot (a2V K0 ((a,(b,())),())):=by
 refine Wp.out (T:=fun o=>Tot o) ?_
 unfold a2V
 exact Wp.brnT (c4P _) (Wp.brnT (c4P _) ⟨_,rfl⟩)
theorem f8P (a:b7T) (b:List (I .u8)) (hb:b.length=64):Tot (b4B K0 ((a,(b,())),())):=by
 refine Wp.out (T:=fun o=>Tot o) ?_
 unfold b4B
 refine Wp.tot ⟨_,rfl⟩ (fun y0=>?_)
 have m4:∀ i,i<16→I.mul (I.of .i64 4) (i6 i)=i6 (4*i):=by
  intro i hi
  apply I.ext'
  rw [c3M (by rw [a0Q (by omega),show (I.of .i64 4).val=4 from rfl]; omega),a0Q (by omega),a0Q (by omega),show (I.of .i64 4).val=4 from rfl]
  omega
 have ad:∀ (i j:Nat),i<64→j<64→I.add (i6 i) (I.of .i64 (j:Int))=i6 (i+j):=fun i j hi hj=>a2K (by omega)
 have sb:∀ (i j:Nat),i<64→j≤i→I.sub (i6 i) (I.of .i64 (j:Int))=i6 (i-j):=fun i j hi hj=>c2V (by omega) hj
 have inb:∀ i n,i<n→n<1000→inB (i6 i) n=true:=fun i n h h2=>a3H h (by omega)
 refine Wp.iter (fun x=>x.1.1=b∧∃ i,i≤64∧x.1.2.1=i6 i) (fun x=>64-x.1.2.1.val.toNat) ?_ ⟨rfl,0,by omega,rfl⟩ (by rw [a6Z]; show 64-0<_; decide)
 rintro ⟨⟨b',j,⟨⟩⟩,x2⟩ ⟨e,i,hi,e2⟩
 simp only at e e2
 subst e e2
 have hm:∀ j,j=i+1→64-(i6 j).val.toNat<64-(i6 i).val.toNat∨64≤i:=by
  intro j hj; rw [a0Q (by omega),a0Q (by omega)]; omega
 have hn:I.add (i6 i) (I.of .i64 1)=i6 (i+1):=a2K (m:=1) (by omega)
 have hlen:a0K b'=64:=hb
 refine Wp.brn (fun hc=>?_) (fun hc=>?_)
 ·
  have hc:i<64:=by have:=iff_ltb.1 hc; simp only [a0Q (show i<9223372036854775808 by omega),show (I.of .i64 64).val=64 from rfl] at this; omega
  have ag:∀ z,Wp (Rnd (fun o:Option _=>Tot o) (fun x:((List (I .u8))×((I .i64)×Unit))×_=>x.1.1=b'∧∃ i,i≤64∧x.1.2.1=i6 i) (fun x=>64-x.1.2.1.val.toNat) (64-(i6 i).val.toNat)) (.again ((b',(I.add (i6 i) (I.of .i64 1),())),z):Stp (((List (I .u8))×((I .i64)×Unit))×(b7T×(b7T×(c6Q×(c6Q×Unit))))) (Option ((⟨[.pl (.arr 8 (.int .u32))],[]⟩:Tm).D))):=by
   intro z
   refine Wp.again ⟨rfl,i+1,by omega,hn⟩ ?_
   show 64-(I.add (i6 i) (I.of .i64 1)).val.toNat<_
   rw [hn]
   exact (hm _ rfl).resolve_right (by omega)
  refine Wp.brn (fun h16=>?_) (fun h16=>?_)
  ·
   have h16:i<16:=by have:=iff_ltb.1 h16; simp only [a0Q (show i<9223372036854775808 by omega),show (I.of .i64 16).val=16 from rfl] at this; omega
   simp only [m4 i h16,hlen]
   rw [show I.add (i6 (4*i)) (I.of .i64 1)=i6 (4*i+1) from ad (4*i) 1 (by omega) (by omega),show I.add (i6 (4*i)) (I.of .i64 2)=i6 (4*i+2) from ad (4*i) 2 (by omega) (by omega),show I.add (i6 (4*i)) (I.of .i64 3)=i6 (4*i+3) from ad (4*i) 3 (by omega) (by omega)]
   exact Wp.brnT (inb _ _ (by omega) (by omega)) (Wp.brnT (inb _ _ (by omega) (by omega)) (Wp.brnT (inb _ _ (by omega) (by omega)) (Wp.brnT (inb _ _ (by omega) (by omega)) (Wp.brnT (inb _ _ (by omega) (by omega)) (ag _)))))
  ·
   have h16:16≤i:=by have:=niff_ltb.1 h16; simp only [a0Q (show i<9223372036854775808 by omega),show (I.of .i64 16).val=16 from rfl] at this; omega
   rw [show I.sub (i6 i) (I.of .i64 15)=i6 (i-15) from sb i 15 hc (by omega),show I.sub (i6 i) (I.of .i64 2)=i6 (i-2) from sb i 2 hc (by omega),show I.sub (i6 i) (I.of .i64 16)=i6 (i-16) from sb i 16 hc (by omega),show I.sub (i6 i) (I.of .i64 7)=i6 (i-7) from sb i 7 hc (by omega)]
   refine Wp.brnT (inb _ _ (by omega) (by omega)) (Wp.brnT (inb _ _ (by omega) (by omega)) (Wp.brnT (inb _ _ (by omega) (by omega)) (Wp.tot (b4U _ _) fun y2=>Wp.tot (b4U _ _) fun y3=>Wp.brnT (inb _ _ (by omega) (by omega)) (Wp.tot (b4U _ _) fun y4=>Wp.tot (b4U _ _) fun y5=>Wp.brnT (inb _ _ (by omega) (by omega)) (ag _)))))
 ·
  refine Wp.done ?_
  refine Wp.iter (fun x=>∃ i,i≤64∧x.1.1=i6 i) (fun x=>64-x.1.1.val.toNat) ?_ ⟨0,by omega,rfl⟩ (by rw [a6Z]; show 64-0<_; decide)
  rintro ⟨⟨j,⟨⟩⟩,x2⟩ ⟨k,hk,e2⟩
  simp only at e2
  subst e2
  refine Wp.brn (fun hc=>?_) (fun hc=>?_)
  ·
   have hc:k<64:=by have:=iff_ltb.1 hc; simp only [a0Q (show k<9223372036854775808 by omega),show (I.of .i64 64).val=64 from rfl] at this; omega
   have hn:I.add (i6 k) (I.of .i64 1)=i6 (k+1):=a2K (m:=1) (by omega)
   refine Wp.tot (b4U _ _) fun y3=>Wp.tot (b4U _ _) fun y4=>Wp.tot (b4U _ _) fun y5=>Wp.brnT (inb _ _ hc (by omega)) (Wp.brnT (inb _ _ hc (by omega)) (Wp.tot (b4U _ _) fun y6=>Wp.tot (b4U _ _) fun y7=>Wp.tot (b4U _ _) fun y8=>?_))
   refine Wp.again ⟨k+1,by omega,hn⟩ ?_
   show 64-(I.add (i6 k) (I.of .i64 1)).val.toNat<64-(i6 k).val.toNat
   rw [hn,a0Q (by omega),a0Q (by omega)]; omega
  ·
   refine Wp.done ?_
   refine Wp.iter (fun x=>∃ i,i≤8∧x.1.1=i6 i) (fun x=>8-x.1.1.val.toNat) ?_ ⟨0,by omega,rfl⟩ (by rw [a6Z]; show 8-0<_; decide)
   rintro ⟨⟨j,⟨⟩⟩,x3⟩ ⟨q,hq,e2⟩
   simp only at e2
   subst e2
   refine Wp.brn (fun hc=>?_) (fun hc=>Wp.done ⟨_,rfl⟩)
   have hc:q<8:=by have:=iff_ltb.1 hc; simp only [a0Q (show q<9223372036854775808 by omega),show (I.of .i64 8).val=8 from rfl] at this; omega
   have hn:I.add (i6 q) (I.of .i64 1)=i6 (q+1):=a2K (m:=1) (by omega)
   refine Wp.brnT (inb _ _ hc (by omega)) (Wp.brnT (inb _ _ hc (by omega)) (Wp.brnT (inb _ _ hc (by omega)) ?_))
   refine Wp.again ⟨q+1,by omega,hn⟩ ?_
   show 8-(I.add (i6 q) (I.of .i64 1)).val.toNat<8-(i6 q).val.toNat
   rw [hn,a0Q (by omega),a0Q (by omega)]; omega
end Sym
