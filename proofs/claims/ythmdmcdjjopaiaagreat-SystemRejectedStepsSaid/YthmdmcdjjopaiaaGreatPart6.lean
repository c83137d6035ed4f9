/- The fees: units of data, gas, the shares. -/
import Derived.Carry
import Derived.SizedLaws
import Derived.ChangeOld
import Derived.OpenShut
import Derived.Test.YthmdmcdjjopaiaaGreatPart5
import Derived.Test.YthmdmcdjjopaiaaGreatPart4
import Derived.Test.YthmdmcdjjopaiaaGreatPart3
namespace Sym
open Go
theorem Wp.jnZ {X R:Type} {T:R→Prop} {J:X→R} {f:(X→R)→R} (h:Wp T (f J)):Wp T (Sym.jn J f):=h
def unitsS (b:List B8) (lo hi:I .u64):I .u64 × I .i64 :=
 if I.ltb hi lo = true then (I.of .u64 0,I.of .i64 2) else if 4096 < b.length then (I.of .u64 0,I.of .i64 6)
 else (I.mn (I.mx (I.mul (I.of .u64 16) (I.conv (k:=.i64) .u64 (i6 (compS b).length))) lo) hi,I.of .i64 0)
theorem Units_eq (b:List B8) (lo hi:I .u64) (hb:b.length ≤ 100000000):sizeest_Units K0 ((b,lo,hi,()),()) = some (((unitsS b lo hi).1,(unitsS b lo hi).2,()),()):=by
 refine Wp.out (T:=fun o=>o = some (((unitsS b lo hi).1,(unitsS b lo hi).2,()),())) ?_
 unfold sizeest_Units unitsS
 refine Wp.brn (fun h=>?_) (fun h=>?_)
 ·
  rw [if_pos h]; rfl
 ·
  rw [if_neg (by rw [show I.ltb hi lo = false from h]; simp)]
  refine Wp.brn (fun h2=>?_) (fun h2=>?_)
  ·
   have h2:I.ltb (i6 4096) (i6 b.length) = true:=h2
   rw [i6_ltb (by omega) (by omega)] at h2
   rw [if_pos (of_decide_eq_true h2)]; rfl
  ·
   have h2:I.ltb (i6 4096) (i6 b.length) = false:=h2
   rw [i6_ltb (by omega) (by omega)] at h2
   rw [if_neg (of_decide_eq_false h2)]
   exact Wp.optF (Compress_eq b hb).1 rfl
abbrev CH:Type:=I .u64 × I .u64 × I .u64 × I .u64 × Bool × U × U × U × U × U × Unit
def zU:U:=(I.of .u64 0,I.of .u64 0,I.of .u64 0,I.of .u64 0,())
def zCH:CH:=(I.of .u64 0,I.of .u64 0,I.of .u64 0,I.of .u64 0,false,zU,zU,zU,zU,zU,())
theorem Cost_eq (u:I .u64) (c:U):sizeest_Cost K0 ((u,c,()),()) = some (((errS (u.nat * c.val)).1,(errS (u.nat * c.val)).2,()),()):=by
 refine Wp.out (T:=fun o=>o = some (((errS (u.nat * c.val)).1,(errS (u.nat * c.val)).2,()),())) ?_
 unfold sizeest_Cost
 have m:=Mul_ok (u64U u) c
 rw [u64U_val] at m
 exact Wp.optF (a1Y u) (Wp.optF m rfl)
def gasT (data:List B8) (lim:I .u64) (base unit:U) (lo hi:I .u64):I .u64 × I .u64 × I .i64 :=
 if I.neb (unitsS data lo hi).2 (I.of .i64 0) = true then (I.of .u64 0,I.of .u64 0,(unitsS data lo hi).2)
 else if U.top ≤ (unitsS data lo hi).1.nat * unit.val then (I.of .u64 0,I.of .u64 0,I.of .i64 4)
 else if lim.nat < (unitsS data lo hi).1.nat * unit.val / base.val then (I.of .u64 0,I.of .u64 0,I.of .i64 13)
 else ((unitsS data lo hi).1,I.of .u64 (((unitsS data lo hi).1.nat * unit.val / base.val:Nat):Int),I.of .i64 0)
def exeN (lim ex po:I .u64):Nat:=min ex.nat (lim.nat - po.nat)
def metS (g:I .u64 × I .u64 × I .i64) (lim ex:I .u64):CH × I .i64 :=
 if I.neb g.2.2 (I.of .i64 0) = true then (zCH,g.2.2)
 else ((g.1,g.2.1,I.of .u64 (exeN lim ex g.2.1:Int),I.of .u64 ((g.2.1.nat + exeN lim ex g.2.1:Nat):Int),decide (exeN lim ex g.2.1 < ex.nat),zU,zU,zU,zU,zU,()),I.of .i64 0)
theorem U_fst {n:Nat} (h:n < 18446744073709551616):(U.of n).1 = I.of .u64 (n:Int):=by
 unfold U.of
 rw [Nat.mod_eq_of_lt h]
theorem u64_ext {a b:I .u64} (h:a.nat = b.nat):a = b:=by
 apply I.ext'
 rw [← nat_val,← nat_val,h]
theorem sub_nat_le (a b:I .u64) (h:b.nat ≤ a.nat):(I.sub a b).nat = a.nat - b.nat:=by
 have h1:=nat_val a
 have h2:=nat_val b
 have h3:=nat_val (I.sub a b)
 rw [sub_u64 (by omega)] at h3
 omega
theorem mn_nat (a b:I .u64):(I.mn a b).nat = min a.nat b.nat:=by
 have h1:=nat_val a
 have h2:=nat_val b
 unfold I.mn
 split <;> omega
theorem meter_eq (f1 f2 f3 lim ex:I .u64) (data:List B8) (v cap tip base unit:U) (p:Prm) (hd:data.length ≤ 100000000) (hbase:base.val ≠ 0) :
  txfee_meter K0 (((f1,f2,f3,v,lim,cap,tip,ex,data,()),base,unit,p,()),()) = some (((metS (gasT data lim base unit p.2.2.2.2.2.2.2.2.2.2.1 p.2.2.2.2.2.2.2.2.2.2.2.1) lim ex).1,(metS (gasT data lim base unit p.2.2.2.2.2.2.2.2.2.2.1 p.2.2.2.2.2.2.2.2.2.2.2.1) lim ex).2,()),()):=by
 generalize hg:metS (gasT data lim base unit p.2.2.2.2.2.2.2.2.2.2.1 p.2.2.2.2.2.2.2.2.2.2.2.1) lim ex = R
 refine Wp.out (T:=fun o=>o = some ((R.1,R.2,()),())) ?_
 unfold txfee_meter
 refine Wp.optF (Units_eq data _ _ hd) ?_
 unfold gasT at hg
 generalize unitsS data p.2.2.2.2.2.2.2.2.2.2.1 p.2.2.2.2.2.2.2.2.2.2.2.1 = u at hg ⊢
 refine Wp.brn (fun h=>?_) (fun h=>?_)
 ·
  have h:I.neb u.2 (I.of .i64 0) = true:=h
  rw [if_pos h] at hg
  unfold metS at hg
  rw [if_pos h] at hg
  rw [← hg]; rfl
 ·
  have h:I.neb u.2 (I.of .i64 0) = false:=h
  rw [if_neg (by rw [h]; simp)] at hg
  refine Wp.optF (Cost_eq u.1 unit) ?_
  by_cases hc:U.top ≤ u.1.nat * unit.val
  ·
   rw [if_pos hc] at hg
   rw [errS_ge hc]
   refine Wp.brnT neb40 ?_
   rw [← hg]; rfl
  ·
   rw [if_neg hc] at hg
   rw [errS_lt (by omega)]
   refine Wp.brnF neb00 ?_
   refine Wp.optF (DivMod_ok _ base) ?_
   have e1:(U.of (u.1.nat * unit.val)).val = u.1.nat * unit.val:=U.val_of (by omega)
   unfold divModS
   rw [if_neg hbase,e1]
   refine Wp.brnF neb00 ?_
   have hq:u.1.nat * unit.val / base.val < U.top:=Nat.lt_of_le_of_lt (Nat.div_le_self _ _) (by omega)
   generalize u.1.nat * unit.val / base.val = q at hg hq ⊢
   refine Wp.optF (UUint64_eq (U.of q)) ?_
   rw [U.val_of hq]
   refine Wp.jnZ ?_
   have hl:=a2B lim
   by_cases h64:q < 18446744073709551616
   ·
    rw [if_pos h64,U_fst h64]
    refine Wp.brnF rfl ?_
    have hqn:(I.of .u64 (q:Int)).nat = q:=of_nat h64
    refine Wp.brn (fun h3=>?_) (fun h3=>?_)
    ·
     rw [ltb_nat,hqn] at h3
     have h3:lim.nat < q:=of_decide_eq_true h3
     rw [if_pos h3] at hg
     rw [← hg]; rfl
    ·
     rw [ltb_nat,hqn] at h3
     have h3:¬ lim.nat < q:=of_decide_eq_false h3
     rw [if_neg h3] at hg
     rw [← hg]
     unfold metS
     simp only
     rw [if_neg (by rw [neb00]; simp)]
     have es:(I.sub lim (I.of .u64 (q:Int))).nat = lim.nat - q:=by rw [sub_nat_le _ _ (by omega),hqn]
     have em:I.mn ex (I.sub lim (I.of .u64 (q:Int))) = I.of .u64 (exeN lim ex (I.of .u64 (q:Int)):Int):=by
      apply u64_ext
      rw [mn_nat,es,of_nat (by unfold exeN; have:=a2B ex; omega)]
      unfold exeN
      rw [hqn]
     have hx:exeN lim ex (I.of .u64 (q:Int)) ≤ lim.nat - q:=by unfold exeN; rw [hqn]; omega
     have hxn:(I.of .u64 (exeN lim ex (I.of .u64 (q:Int)):Int)).nat = exeN lim ex (I.of .u64 (q:Int)):=of_nat (by omega)
     have ea:I.add (I.of .u64 (q:Int)) (I.of .u64 (exeN lim ex (I.of .u64 (q:Int)):Int)) = I.of .u64 (((I.of .u64 (q:Int)).nat + exeN lim ex (I.of .u64 (q:Int)):Nat):Int):=by
      apply u64_ext
      rw [add_nat_lt _ _ (by omega),hxn,hqn,of_nat (by omega)]
     have el:I.ltb (I.of .u64 (exeN lim ex (I.of .u64 (q:Int)):Int)) ex = decide (exeN lim ex (I.of .u64 (q:Int)) < ex.nat):=by
      rw [ltb_nat,hxn]
     show some _ = _
     simp only [em,ea,el]
     rfl
   ·
    rw [if_neg h64]
    refine Wp.brnT rfl ?_
    rw [if_pos (by omega)] at hg
    rw [← hg]; rfl
def netN (base icap:U) (e:Nat):Nat:=base.val * e - min icap.val base.val * e
def burnN (base icap:U) (bips:I .u64) (e:Nat):Nat:=netN base icap e * bips.nat / 10000
def restN (base icap tip:U) (bips:I .u64) (e used:Nat):Nat:=netN base icap e - burnN base icap bips e + tip.val * used
def distS (c:CH) (base icap:U) (bips:I .u64):CH × I .i64 :=
 if U.top ≤ base.val * c.2.1.nat ∨ U.top ≤ base.val * c.2.2.1.nat ∨ U.top ≤ restN base icap c.2.2.2.2.2.1 bips c.2.2.1.nat c.2.2.2.1.nat then (zCH,I.of .i64 4)
 else ((c.1,c.2.1,c.2.2.1,c.2.2.2.1,c.2.2.2.2.1,c.2.2.2.2.2.1,U.of (base.val * c.2.1.nat),U.of (min icap.val base.val * c.2.2.1.nat),U.of (restN base icap c.2.2.2.2.2.1 bips c.2.2.1.nat c.2.2.2.1.nat),U.of (burnN base icap bips c.2.2.1.nat),()),I.of .i64 0)
theorem dist_eq (c:CH) (base:U) (p:Prm) (hb:p.2.2.2.2.2.2.1.nat ≤ 10000) :
  txfee_distribute K0 ((c,base,p,()),()) = some (((distS c base p.2.2.2.2.2.1 p.2.2.2.2.2.2.1).1,(distS c base p.2.2.2.2.2.1 p.2.2.2.2.2.2.1).2,()),()):=by
 obtain ⟨u,po,e,us,oog,tp,z1,z2,z3,z4,⟨⟩⟩:=c
 generalize hg:distS (u,po,e,us,oog,tp,z1,z2,z3,z4,()) base p.2.2.2.2.2.1 p.2.2.2.2.2.2.1 = R
 refine Wp.out (T:=fun o=>o = some ((R.1,R.2,()),())) ?_
 unfold distS at hg
 simp only at hg
 unfold txfee_distribute
 have m1:=Mul_ok base (u64U po)
 have m2:=Mul_ok base (u64U e)
 have m3:=Mul_ok (minS p.2.2.2.2.2.1 base) (u64U e)
 have m4:=Mul_ok tp (u64U us)
 rw [u64U_val] at m1 m2 m3 m4
 rw [minS_val] at m3
 refine Wp.optF (a1Y po) (Wp.optF m1 (Wp.optF (a1Y e) (Wp.optF m2 (Wp.optF (uint256_Min_eq p.2.2.2.2.2.1 base) (Wp.optF (a1Y e) (Wp.optF m3 (Wp.optF (a1Y us) (Wp.optF m4 (Wp.jnZ ?_)))))))))
 by_cases h1:U.top ≤ base.val * po.nat
 ·
  rw [if_pos (.inl h1)] at hg
  rw [errS_ge h1]
  refine Wp.brnT neb40 ?_
  rw [← hg]; rfl
 rw [errS_lt (Nat.lt_of_not_le h1)]
 refine Wp.brnF neb00 ?_
 by_cases h2:U.top ≤ base.val * e.nat
 ·
  rw [if_pos (.inr (.inl h2))] at hg
  rw [errS_ge h2]
  refine Wp.brnT neb40 ?_
  rw [← hg]; rfl
 rw [errS_lt (Nat.lt_of_not_le h2)]
 refine Wp.brnF neb00 ?_
 have h3:min p.2.2.2.2.2.1.val base.val * e.nat ≤ base.val * e.nat:=Nat.mul_le_mul_right _ (Nat.min_le_right _ _)
 rw [errS_lt (n:=min p.2.2.2.2.2.1.val base.val * e.nat) (by omega)]
 refine Wp.brnF neb00 ?_
 by_cases h4:U.top ≤ tp.val * us.nat
 ·
  rw [if_pos (.inr (.inr (by unfold restN; omega)))] at hg
  rw [errS_ge h4]
  refine Wp.brnT neb40 ?_
  rw [← hg]; rfl
 rw [errS_lt (Nat.lt_of_not_le h4)]
 refine Wp.brnF neb00 ?_
 have hs:=SatSub_ok (U.of (base.val * e.nat)) (U.of (min p.2.2.2.2.2.1.val base.val * e.nat))
 rw [U.val_of (by omega),U.val_of (by omega)] at hs
 refine Wp.optF hs ?_
 have hnet:netN base p.2.2.2.2.2.1 e.nat = base.val * e.nat - min p.2.2.2.2.2.1.val base.val * e.nat:=rfl
 have hsp:=Split_ok (U.of (netN base p.2.2.2.2.2.1 e.nat)) p.2.2.2.2.2.2.1 hb
 rw [U.val_of (by omega)] at hsp
 refine Wp.optF hsp ?_
 refine Wp.brnF neb00 ?_
 have hbl:=share_le (netN base p.2.2.2.2.2.1 e.nat) p.2.2.2.2.2.2.1.nat hb
 have ha:=Add_errS (U.of (netN base p.2.2.2.2.2.1 e.nat - netN base p.2.2.2.2.2.1 e.nat * p.2.2.2.2.2.2.1.nat / 10000)) (U.of (tp.val * us.nat))
 rw [U.val_of (by omega),U.val_of (by omega)] at ha
 refine Wp.optF ha ?_
 have hr:netN base p.2.2.2.2.2.1 e.nat - netN base p.2.2.2.2.2.1 e.nat * p.2.2.2.2.2.2.1.nat / 10000 + tp.val * us.nat = restN base p.2.2.2.2.2.1 tp p.2.2.2.2.2.2.1 e.nat us.nat:=rfl
 rw [hr]
 by_cases h5:U.top ≤ restN base p.2.2.2.2.2.1 tp p.2.2.2.2.2.2.1 e.nat us.nat
 ·
  rw [if_pos (.inr (.inr h5))] at hg
  rw [errS_ge h5]
  refine Wp.brnT neb40 ?_
  rw [← hg]; rfl
 ·
  rw [if_neg (by rintro (h | h | h) <;> omega)] at hg
  rw [errS_lt (Nat.lt_of_not_le h5)]
  refine Wp.brnF neb00 ?_
  rw [← hg]
  rfl
end Sym

/- Audit: what a transaction took from its sender. -/
namespace Sym
open Go
end Sym

/- The price of a unit: unchanged, direction, damped. -/
namespace Sym
open Go
end Sym

/- The price of a unit: the reference computes the same. -/
namespace Sym
open Go
theorem z2:(I.of .i64 0).val ≤ 2:=by decide
end Sym

/- Binary heaps in lists. -/
namespace Sym
open Go
structure SOrd {α:Type} (lt:α→α→Bool):Prop where
 asymm:∀ a b,lt a b = true→lt b a = false
 trans:∀ a b c,lt b a = false→lt c b = false→lt c a = false
section
variable {α:Type} {lt:α→α→Bool} (d:α)
theorem SOrd.refl (h:SOrd lt) (a:α):lt a a = false:=by
 cases e:lt a a with
 | false=>rfl
 | true=>have:=h.asymm a a e; rw [e] at this; cases this
def HeapX (lt:α→α→Bool) (n:Nat) (e:Nat→Prop) (l:List α):Prop:=∀ k,0 < k→k < n→¬ e k→lt (rdL d l k) (rdL d l ((k - 1) / 2)) = false
def swapL (l:List α) (i j:Nat):List α:=setL (setL l i (rdL d l j)) j (rdL d l i)
theorem swapL_len (l:List α) (i j:Nat):(swapL d l i j).length = l.length:=by simp [swapL,setAt_eq]
theorem swapL_perm {l:List α} {i j:Nat} (hi:i < l.length) (hj:j < l.length):(swapL d l i j).Perm l:=by
 unfold swapL
 simp only [setL,setAt_eq,rdL_eq d l i hi,rdL_eq d l j hj]
 exact List.set_set_perm hi hj
theorem swapL_at {l:List α} {i j:Nat} (hi:i < l.length) (hj:j < l.length) (k:Nat):rdL d (swapL d l i j) k = if k = j then rdL d l i else if k = i then rdL d l j else rdL d l k:=by
 unfold swapL
 simp only [setL,rdL_set]
 have h1:(setAt l i (rdL d l j)).length = l.length:=by simp [setAt_eq]
 rw [h1]
 by_cases h:k = j
 ·
  simp [h,hj]
 ·
  by_cases h2:k = i
  ·
   subst h2; simp [h,hi]
  ·
   simp [h,h2]
theorem up_step (ho:SOrd lt) {n j:Nat} {l:List α} (hn:n ≤ l.length) (hj:j < n) (h0:0 < j)
  (h1:HeapX d lt n (fun k=>k = j) l) (h2:∀ k,0 < k→k < n→(k - 1) / 2 = j→lt (rdL d l k) (rdL d l ((j - 1) / 2)) = false)
  (hl:lt (rdL d l j) (rdL d l ((j - 1) / 2)) = true) :
  HeapX d lt n (fun k=>k = (j - 1) / 2) (swapL d l ((j - 1) / 2) j) ∧
  ∀ k,0 < k→k < n→(k - 1) / 2 = (j - 1) / 2→0 < (j - 1) / 2→lt (rdL d (swapL d l ((j - 1) / 2) j) k) (rdL d (swapL d l ((j - 1) / 2) j) (((j - 1) / 2 - 1) / 2)) = false:=by
 obtain ⟨p,hp⟩:∃ p,p = (j - 1) / 2:=⟨_,rfl⟩
 rw [← hp] at hl h2 ⊢
 have hpj:p < j:=by omega
 have ha:=swapL_at d (l:=l) (i:=p) (j:=j) (by omega) (by omega)
 refine ⟨fun k hk hkn he=>?_,fun k hk hkn he hp0=>?_⟩
 ·
  rw [ha,ha]
  by_cases e1:k = j
  ·
   rw [if_pos e1,if_neg (by omega),if_pos (by omega)]
   exact ho.asymm _ _ hl
  ·
   rw [if_neg e1,if_neg he]
   by_cases e2:(k - 1) / 2 = j
   ·
    rw [if_pos e2]
    exact h2 k hk hkn e2
   ·
    rw [if_neg e2]
    by_cases e3:(k - 1) / 2 = p
    ·
     rw [if_pos e3]
     have:=h1 k hk hkn e1
     rw [e3] at this
     exact ho.trans _ _ _ (ho.asymm _ _ hl) this
    ·
     rw [if_neg e3]
     exact h1 k hk hkn e1
 ·
  rw [ha,ha,if_neg (show (p - 1) / 2 ≠ j by omega),if_neg (show (p - 1) / 2 ≠ p by omega)]
  have hpp:=h1 p hp0 (by omega) (by omega)
  by_cases e1:k = j
  ·
   rw [if_pos e1]; exact hpp
  ·
   rw [if_neg e1,if_neg (by omega)]
   have:=h1 k hk hkn e1
   rw [he] at this
   exact ho.trans _ _ _ hpp this
theorem up_done {n j:Nat} {l:List α} (h1:HeapX d lt n (fun k=>k = j) l) (h:j = 0 ∨ lt (rdL d l j) (rdL d l ((j - 1) / 2)) = false):HeapX d lt n (fun _=>False) l:=by
 intro k hk hkn _
 by_cases e:k = j
 ·
  subst e
  exact h.resolve_left (by omega)
 ·
  exact h1 k hk hkn e
theorem down_step (ho:SOrd lt) {n i j:Nat} {l:List α} (hn:n ≤ l.length) (hj:j < n) (hp:(j - 1) / 2 = i) (hj0:0 < j)
  (h1:HeapX d lt n (fun k=>(k - 1) / 2 = i) l) (h2:∀ k,0 < k→k < n→(k - 1) / 2 = i→0 < i→lt (rdL d l k) (rdL d l ((i - 1) / 2)) = false)
  (hmin:∀ k,0 < k→k < n→(k - 1) / 2 = i→lt (rdL d l k) (rdL d l j) = false) (hl:lt (rdL d l j) (rdL d l i) = true) :
  HeapX d lt n (fun k=>(k - 1) / 2 = j) (swapL d l i j) ∧
  ∀ k,0 < k→k < n→(k - 1) / 2 = j→0 < j→lt (rdL d (swapL d l i j) k) (rdL d (swapL d l i j) ((j - 1) / 2)) = false:=by
 have hij:i < j:=by omega
 have ha:=swapL_at d (l:=l) (i:=i) (j:=j) (by omega) (by omega)
 refine ⟨fun k hk hkn he=>?_,fun k hk hkn he _=>?_⟩
 ·
  rw [ha,ha,if_neg he]
  by_cases e1:k = i
  ·
   subst e1
   rw [if_neg (by omega),if_pos rfl,if_neg (by omega)]
   exact h2 j hj0 hj hp hk
  ·
   by_cases e2:k = j
   ·
    rw [if_pos e2,if_pos (by rw [e2]; exact hp)]
    exact ho.asymm _ _ hl
   ·
    rw [if_neg e2,if_neg e1]
    by_cases e3:(k - 1) / 2 = i
    ·
     rw [if_pos e3]
     exact hmin k hk hkn e3
    ·
     rw [if_neg e3]
     exact h1 k hk hkn e3
 ·
  rw [ha,ha,if_neg (show k ≠ j by omega),if_neg (show k ≠ i by omega),if_neg (show (j - 1) / 2 ≠ j by omega),if_pos hp]
  have:=h1 k hk hkn (by omega)
  rw [he] at this
  exact this
theorem down_done {n i:Nat} {l:List α} (h1:HeapX d lt n (fun k=>(k - 1) / 2 = i) l) (h:∀ k,0 < k→k < n→(k - 1) / 2 = i→lt (rdL d l k) (rdL d l i) = false):HeapX d lt n (fun _=>False) l:=by
 intro k hk hkn _
 by_cases e:(k - 1) / 2 = i
 ·
  rw [e]; exact h k hk hkn e
 ·
  exact h1 k hk hkn e
theorem heap_min (ho:SOrd lt) {n:Nat} {l:List α} (h:HeapX d lt n (fun _=>False) l):∀ k,k < n→lt (rdL d l k) (rdL d l 0) = false:=by
 intro k
 induction k using Nat.strongRecOn with
 | ind k ih =>
  intro hk
  rcases Nat.eq_zero_or_pos k with rfl | h0
  ·
   exact ho.refl _
  ·
   exact ho.trans _ _ _ (ih ((k - 1) / 2) (by omega) (by omega)) (h k h0 hk (fun h=>h))
theorem pop_start {n:Nat} {l:List α} (hl:l.length = n + 1) (h:HeapX d lt (n + 1) (fun _=>False) l) :
  HeapX d lt n (fun k=>(k - 1) / 2 = 0) (swapL d l 0 n):=by
 have ha:=swapL_at d (l:=l) (i:=0) (j:=n) (by omega) (by omega)
 intro k hk hkn he
 rw [ha,ha,if_neg (by omega),if_neg (by omega),if_neg (by omega),if_neg he]
 exact h k hk (by omega) (fun h=>h)
theorem heap_take {n:Nat} {l:List α} (h:HeapX d lt n (fun _=>False) l):HeapX d lt n (fun _=>False) (l.take n):=by
 intro k hk hkn he
 rw [rdL_take d l n k hkn,rdL_take d l n _ (by omega)]
 exact h k hk hkn he
theorem push_start {n:Nat} {l:List α} {x:α} (hl:l.length = n) (h:HeapX d lt n (fun _=>False) l) :
  HeapX d lt (n + 1) (fun k=>k = n) (l ++ [x]):=by
 intro k hk hkn he
 rw [rdL_app,rdL_app,if_pos (by omega),if_pos (by omega)]
 exact h k hk (by omega) (fun h=>h)
structure Queued (lt:α→α→Bool) (h r:List α):Prop where
 heap:HeapX d lt h.length (fun _=>False) h
 perm:h.Perm r
 ord:r.Pairwise fun a b=>lt b a = false
 anti:∀ a ∈ r,∀ b ∈ r,lt b a = false→lt a b = false→a = b
theorem Queued.len {h r:List α} (q:Queued d lt h r):h.length = r.length:=q.perm.length_eq
theorem Queued.first (ho:SOrd lt) {h r:List α} {m:α} (q:Queued d lt h (m :: r)):rdL d h 0 = m:=by
 have h0:0 < h.length:=by rw [q.len]; simp
 have hm:=rdL_mem d h 0 h0
 have hr:=q.perm.mem_iff.1 hm
 obtain ⟨k,hk,e⟩:=mem_rdL d (q.perm.mem_iff.2 (List.mem_cons_self (a:=m) (l:=r)))
 have h1:=heap_min d ho q.heap k hk
 rw [e] at h1
 rcases List.mem_cons.1 hr with h2 | h2
 ·
  exact h2
 ·
  exact q.anti _ hr _ (List.mem_cons_self ..) h1 ((List.pairwise_cons.1 q.ord).1 _ h2)
theorem Queued.next {h r:List α} {m:α} (q:Queued d lt h (m :: r)) {h':List α} (h1:HeapX d lt h'.length (fun _=>False) h') (hp:h.Perm (h' ++ [m])):Queued d lt h' r:=by
 have hp2:(m :: h').Perm (m :: r):=(List.perm_append_comm (l₁:=[m]) (l₂:=h')).trans (hp.symm.trans q.perm)
 exact ⟨h1,(List.perm_cons m).1 hp2,(List.pairwise_cons.1 q.ord).2,fun a ha b hb=>q.anti a (List.mem_cons_of_mem _ ha) b (List.mem_cons_of_mem _ hb)⟩
end
end Sym

/- The queue of debts: each function. -/
namespace Sym
open Go
abbrev Item:Type:=a0A
abbrev Post:Type:=a0E
noncomputable abbrev dI:Item:=a0Z
noncomputable abbrev dP:Post:=a1E
abbrev Post.addr (p:Post):I .u64:=p.1
abbrev Post.due (p:Post):U:=p.2.1
abbrev Post.since (p:Post):I .u64:=p.2.2.2.2.2.1
def lessI (a b:Item):Bool :=
 brn (I.neb (Post.since a.1) (Post.since b.1)) (I.ltb (Post.since a.1) (Post.since b.1))
  (brn (I.neb (Post.addr a.1) (Post.addr b.1)) (I.ltb (Post.addr a.1) (Post.addr b.1)) (I.ltb a.2.1 b.2.1))
theorem lessI_iff (a b:Item):lessI a b = true ↔ (Post.since a.1).val < (Post.since b.1).val ∨ ((Post.since a.1).val = (Post.since b.1).val∧((Post.addr a.1).val < (Post.addr b.1).val ∨ ((Post.addr a.1).val = (Post.addr b.1).val∧a.2.1.val < b.2.1.val))):=by
 unfold lessI
 cases h:I.neb (Post.since a.1) (Post.since b.1) with
 | true =>
  have h:=iff_neb.1 h
  show I.ltb _ _ = true ↔ _
  rw [iff_ltb]
  omega
 | false =>
  have h:=niff_neb.1 h
  show brn _ _ _ = true ↔ _
  cases h2:I.neb (Post.addr a.1) (Post.addr b.1) with
  | true =>
   have h2:=iff_neb.1 h2
   show I.ltb _ _ = true ↔ _
   rw [iff_ltb]
   omega
  | false =>
   have h2:=niff_neb.1 h2
   show I.ltb _ _ = true ↔ _
   rw [iff_ltb]
   omega
theorem lessI_not (a b:Item):lessI a b = false ↔ ¬ ((Post.since a.1).val < (Post.since b.1).val ∨ ((Post.since a.1).val = (Post.since b.1).val∧((Post.addr a.1).val < (Post.addr b.1).val ∨ ((Post.addr a.1).val = (Post.addr b.1).val∧a.2.1.val < b.2.1.val)))):=by
 rw [← lessI_iff]
 simp
theorem lessO:SOrd lessI where
 asymm a b h:=by
  have h:=(lessI_iff a b).1 h
  rw [lessI_not]
  omega
 trans a b c h1 h2:=by
  have h1:=(lessI_not _ _).1 h1
  have h2:=(lessI_not _ _).1 h2
  rw [lessI_not]
  omega
theorem of64_0:I.of .i64 0 = i6 0:=rfl
theorem of64_1:I.of .i64 1 = i6 1:=rfl
theorem of64_2:I.of .i64 2 = i6 2:=rfl
theorem i6_half (j:Nat) (h:j < 9223372036854775808):I.quo (I.sub (i6 j) (i6 1)) (i6 2) = i6 ((j - 1) / 2):=by
 rcases Nat.eq_zero_or_pos j with rfl | h0
 ·
  apply I.ext'; decide
 ·
  rw [i6_sub h h0]
  apply I.ext'
  rw [quo_i64 (by rw [a1J (by omega)]; omega) (by rw [a1J (by omega)]; omega),a1J (by omega),a1J (by omega),a1J (by omega)]
  omega
abbrev BIG:Nat:=1073741824
theorem Less_eq {l:List Item} {i j:Nat} (hi:i < l.length) (hj:j < l.length) (hl:l.length ≤ BIG) :
  debtqueue_items_Less K0 ((l,i6 i,i6 j,()),()) = some ((lessI (rdL dI l i) (rdL dI l j),()),()):=by
 have hl:l.length ≤ 1073741824:=hl
 refine Wp.out (T:=fun o=>o = some ((lessI (rdL dI l i) (rdL dI l j),()),())) ?_
 unfold debtqueue_items_Less
 refine Wp.brnT (i6_inB hi (by omega)) (Wp.brnT (i6_inB hj (by omega)) ?_)
 simp only [i6_nat (show i < 9223372036854775808 by omega),i6_nat (show j < 9223372036854775808 by omega)]
 unfold lessI
 refine Wp.brn (fun h=>?_) (fun h=>?_)
 ·
  rw [show I.neb (Post.since (rdL dI l i).1) (Post.since (rdL dI l j).1) = true from h]
  rfl
 ·
  rw [show I.neb (Post.since (rdL dI l i).1) (Post.since (rdL dI l j).1) = false from h]
  refine Wp.brn (fun h=>?_) (fun h=>?_)
  ·
   rw [show I.neb (Post.addr (rdL dI l i).1) (Post.addr (rdL dI l j).1) = true from h]
   rfl
  ·
   rw [show I.neb (Post.addr (rdL dI l i).1) (Post.addr (rdL dI l j).1) = false from h]
   rfl
theorem Len_eq {l:List Item}:debtqueue_items_Len K0 ((l,()),()) = some ((i6 l.length,()),()):=rfl
theorem Push_ok {h:List Item} {x:Item} (hh:HeapX dI (lt:=lessI) h.length (fun _=>False) h) (hl:h.length + 1 ≤ BIG) :
  ∃ y,container_heap_Push K0 (((),((x,()))),(((),()),(h,()))) = some y∧∃ h',y = ((),(((),()),(h',())))∧HeapX dI (lt:=lessI) h'.length (fun _=>False) h'∧h'.Perm (x :: h):=by
 have hl:h.length + 1 ≤ 1073741824:=hl
 refine Wp.out (T:=fun o=>∃ y,o = some y∧∃ h',y = ((),(((),()),(h',())))∧HeapX dI (lt:=lessI) h'.length (fun _=>False) h'∧h'.Perm (x :: h)) ?_
 unfold container_heap_Push
 refine Wp.brnT (fits_le (by show (h ++ [x]).length ≤ _; simp; omega)) ?_
 refine Wp.optF Len_eq ?_
 have hlen:(appL h (x :: [])).length = h.length + 1:=by simp [appL]
 simp only [hlen,of64_1,i6_sub (show h.length + 1 < 9223372036854775808 by omega) (show 1 ≤ h.length + 1 by omega),Nat.add_sub_cancel]
 refine Wp.iter (fun s=>∃ j l,s = (((),(i6 j,())),(((),()),(l,())))∧j < h.length + 1∧l.length = h.length + 1∧l.Perm (x :: h)∧HeapX dI (lt:=lessI) (h.length + 1) (fun k=>k = j) l ∧
   ∀ k,0 < k→k < h.length + 1→(k - 1) / 2 = j→0 < j→lessI (rdL dI l k) (rdL dI l ((j - 1) / 2)) = false) (fun s=>s.1.2.1.val.toNat) ?_ ⟨h.length,h ++ [x],rfl,by omega,by simp,(List.perm_append_comm (l₁:=h) (l₂:=[x])),push_start dI rfl hh,fun k h0 hk he _=>by omega⟩ ?_
 ·
  rintro s ⟨j,l,rfl,hj,hll,hp,h1,h2⟩
  simp only [of64_1,of64_2,i6_half j (by omega),i6_eqb (show (j - 1) / 2 < 9223372036854775808 by omega) (show j < 9223372036854775808 by omega)]
  refine Wp.brn (fun he=>?_) (fun he=>?_)
  ·
   have he:=of_decide_eq_true he
   exact Wp.done ⟨_,rfl,l,rfl,by rw [hll]; exact up_done dI h1 (.inl (by omega)),hp⟩
  ·
   have he:=of_decide_eq_false he
   refine Wp.optF (Less_eq (l:=l) (by omega) (by omega) (by show l.length ≤ 1073741824; omega)) ?_
   refine Wp.brn (fun hc=>?_) (fun hc=>?_)
   ·
    exact Wp.done ⟨_,rfl,l,rfl,by rw [hll]; exact up_done dI h1 (.inr (by simpa [bnot] using hc)),hp⟩
   ·
    have hc:lessI (rdL dI l j) (rdL dI l ((j - 1) / 2)) = true:=by simpa [bnot] using hc
    simp only [i6_nat (show j < 9223372036854775808 by omega),i6_nat (show (j - 1) / 2 < 9223372036854775808 by omega)]
    refine Wp.brnT (i6_inB (by rw [lenL_eq]; omega) (by omega)) (Wp.brnT (i6_inB (by rw [lenL_eq]; omega) (by omega)) (Wp.brnT (i6_inB (by rw [lenL_eq]; omega) (by omega)) (Wp.brnT (i6_inB (by rw [lenL_eq,setL,setAt_eq,List.length_set]; omega) (by omega)) ?_)))
    have ⟨g1,g2⟩:=up_step dI lessO (by omega) hj (by omega) h1 (fun k a b c=>h2 k a b c (by omega)) hc
    refine Wp.again ⟨(j - 1) / 2,swapL dI l ((j - 1) / 2) j,rfl,by omega,by rw [swapL_len]; exact hll,(swapL_perm dI (by omega) (by omega)).trans hp,g1,g2⟩ ?_
    show (i6 ((j - 1) / 2)).val.toNat < (i6 j).val.toNat
    rw [a1J (by omega),a1J (by omega)]
    omega
 ·
  show (i6 h.length).val.toNat < K0
  rw [a1J (by omega),K0_eq]
  omega
end Sym

/- The queue of debts: Len, Peek, Pop. -/
namespace Sym
open Go
abbrev QOf (h r:List Item):Prop:=Queued dI lessI h r
theorem QLen_eq (h:List Item):debtqueue_Queue_Len K0 ((),(((),()),(h,()))) = some ((i6 h.length,()),(((),()),(h,()))):=rfl
theorem QOf.nil {h:List Item} (q:QOf h []):h = []:=List.eq_nil_of_length_eq_zero q.len
theorem Peek_ok {h r:List Item} {m:Item} (q:QOf h (m :: r)) (hl:h.length ≤ BIG):debtqueue_Queue_Peek K0 ((),(((),()),(h,()))) = some ((m.1,(true,())),(((),()),(h,()))):=by
 have hl:h.length ≤ 1073741824:=hl
 refine Wp.out (T:=fun o=>o = some ((m.1,(true,())),(((),()),(h,())))) ?_
 have h0:0 < h.length:=by rw [q.len]; simp
 unfold debtqueue_Queue_Peek
 refine Wp.optF (QLen_eq h) ?_
 simp only [of64_0,i6_eqb (show h.length < 9223372036854775808 by omega) (show 0 < 9223372036854775808 by omega)]
 refine Wp.brnF (decide_eq_false (by omega)) (Wp.brnT (i6_inB h0 (by omega)) ?_)
 show some _ = some _
 rw [show rdL a0Z h 0 = m from q.first dI lessO]
 rfl
theorem Pop_nil:debtqueue_Queue_Pop K0 ((),(((),()),([],()))) = some ((dP,(false,())),(((),()),([],()))):=rfl
theorem take_last {X:Type} (d:X) {l:List X} {n:Nat} (h:l.length = n + 1):l = l.take n ++ [rdL d l n]:=by
 rw [rdL_eq d l n (by omega)]
 rw [List.take_append_getElem]
 exact (List.take_of_length_le (by omega)).symm
theorem Pop_ok {h r:List Item} {m:Item} (q:QOf h (m :: r)) (hl:h.length ≤ BIG) :
  ∃ y,debtqueue_Queue_Pop K0 ((),(((),()),(h,()))) = some y∧∃ h',y = ((m.1,(true,())),(((),()),(h',())))∧QOf h' r:=by
 have hl:h.length ≤ 1073741824:=hl
 obtain ⟨n,hn⟩:∃ n,h.length = n + 1:=⟨r.length,by rw [q.len]; simp⟩
 refine Wp.out (T:=fun o=>∃ y,o = some y∧∃ h',y = ((m.1,(true,())),(((),()),(h',())))∧QOf h' r) ?_
 unfold debtqueue_Queue_Pop
 refine Wp.optF (Peek_ok q hl) ?_
 refine Wp.brnT rfl ?_
 refine Wp.optF Len_eq ?_
 simp only [hn,lenL_eq,of64_0,of64_1,i6_sub (show n + 1 < 9223372036854775808 by omega) (show 1 ≤ n + 1 by omega),Nat.add_sub_cancel,i6_nat (show n < 9223372036854775808 by omega)]
 refine Wp.brnT (i6_inB (by omega) (by omega)) (Wp.brnT (i6_inB (by omega) (by omega)) (Wp.brnT (i6_inB (by omega) (by omega)) (Wp.brnT (i6_inB (by rw [setL,setAt_eq,List.length_set]; omega) (by omega)) ?_)))
 have fin:∀ l:List Item,l.length = n + 1→l.Perm h→rdL dI l n = m→HeapX dI (lt:=lessI) n (fun _=>False) l →
   ∃ h',((((m.1,(true,())),(((),()),(l.take n,())))):(a0E × (Bool × Unit)) × ((Unit × Unit) × ((List a0A) × Unit))) = ((m.1,(true,())),(((),()),(h',())))∧QOf h' r:=by
  intro l hll hp hm hh
  refine ⟨l.take n,rfl,q.next dI ?_ ?_⟩
  ·
   rw [List.length_take,hll,Nat.min_eq_left (by omega)]
   exact heap_take dI hh
  ·
   rw [← hm,← take_last dI hll]
   exact hp.symm
 refine Wp.iter (fun s=>∃ i l,s = (((),(i6 0,(i6 n,(i6 i,((),(true,())))))),(((),()),(l,(dP,(m.1,())))))∧i ≤ n∧l.length = n + 1∧l.Perm h∧rdL dI l n = m∧HeapX dI (lt:=lessI) n (fun k=>(k - 1) / 2 = i) l ∧
   ∀ k,0 < k→k < n→(k - 1) / 2 = i→0 < i→lessI (rdL dI l k) (rdL dI l ((i - 1) / 2)) = false) (fun s=>n - s.1.2.2.2.1.val.toNat) ?_ ⟨0,swapL dI h 0 n,rfl,by omega,by rw [swapL_len]; exact hn,swapL_perm dI (by omega) (by omega),?_,?_,fun k _ _ _ h0=>absurd h0 (by omega)⟩ ?_
 ·
  rintro s ⟨i,l,rfl,hi,hll,hp,hm,h1,h2⟩
  have e1:I.add (I.mul (i6 2) (i6 i)) (i6 1) = i6 (2 * i + 1):=by
   apply I.ext'
   have e0:(I.mul (i6 2) (i6 i)).val = 2 * i:=by rw [mul_i64 (by rw [a1J (by omega),a1J (by omega)]; omega),a1J (by omega),a1J (by omega)]; rfl
   rw [add_i64 (by rw [e0,a1J (by omega)]; omega),e0,a1J (by omega),a1J (by omega)]
   omega
  simp only [hll,i6_ofNat,of64_0,of64_1,of64_2,e1,i6_add (show 2 * i + 1 + 1 < 9223372036854775808 by omega),i6_sub (show n + 1 < 9223372036854775808 by omega) (show 1 ≤ n + 1 by omega),Nat.add_sub_cancel,i6_nat (show n < 9223372036854775808 by omega),i6_nat (show i < 9223372036854775808 by omega),i6_nat (show 2 * i + 1 < 9223372036854775808 by omega),i6_nat (show 2 * i + 1 + 1 < 9223372036854775808 by omega),
   i6_leb (show n < 9223372036854775808 by omega) (show 2 * i + 1 < 9223372036854775808 by omega),i6_ltb (show 2 * i + 1 < 9223372036854775808 by omega) (show 0 < 9223372036854775808 by omega),i6_ltb (show 2 * i + 1 + 1 < 9223372036854775808 by omega) (show n < 9223372036854775808 by omega),subL_take]
  have b1:inB (i6 n) (n + 1) = true:=i6_inB (by omega) (by omega)
  have b2:inB' (i6 n) (n + 1) = true:=i6_inB' (by omega) (by omega)
  have bi:inB (i6 i) (n + 1) = true:=i6_inB (by omega) (by omega)
  have hset:∀ (k:Nat) (v:Item),(setL l k v).length = n + 1:=fun k v=>by rw [setL,setAt_eq,List.length_set]; exact hll
  have step:∀ j,j < n→(j - 1) / 2 = i→0 < j→(∀ k,0 < k→k < n→(k - 1) / 2 = i→lessI (rdL dI l k) (rdL dI l j) = false)→lessI (rdL dI l j) (rdL dI l i) = true →
    (∃ i' l',((((),(i6 0,(i6 n,(i6 j,((),(true,())))))),(((),()),(setL (setL l i (rdL dI l j)) j (rdL dI l i),(dP,(m.1,()))))):(Unit × (I .i64 × (I .i64 × (I .i64 × (Unit × (Bool × Unit)))))) × ((Unit × Unit) × (List Item × (Post × (Post × Unit))))) = (((),(i6 0,(i6 n,(i6 i',((),(true,())))))),(((),()),(l',(dP,(m.1,())))))∧i' ≤ n∧l'.length = n + 1∧l'.Perm h∧rdL dI l' n = m∧HeapX dI (lt:=lessI) n (fun k=>(k - 1) / 2 = i') l' ∧
     ∀ k,0 < k→k < n→(k - 1) / 2 = i'→0 < i'→lessI (rdL dI l' k) (rdL dI l' ((i' - 1) / 2)) = false)∧n - (i6 j).val.toNat < n - (i6 i).val.toNat:=by
   intro j hj hji hj0 hmin hlt
   have ⟨g1,g2⟩:=down_step dI lessO (show n ≤ l.length by omega) hj hji hj0 h1 h2 hmin hlt
   refine ⟨⟨j,swapL dI l i j,rfl,by omega,by rw [swapL_len]; exact hll,(swapL_perm dI (by omega) (by omega)).trans hp,?_,g1,g2⟩,?_⟩
   ·
    rw [swapL_at dI (by omega) (by omega),if_neg (by omega),if_neg (by omega)]
    exact hm
   ·
    rw [a1J (by omega),a1J (by omega)]
    omega
  refine Wp.brn (fun hc=>?_) (fun hc=>?_)
  ·
   have hc:=of_decide_eq_true hc
   refine Wp.done (Wp.brnT b1 (Wp.brnT b2 ?_))
   exact ⟨_,rfl,fin l hll hp hm (down_done dI h1 fun k _ hk e=>by omega)⟩
  ·
   have hc:=of_decide_eq_false hc
   refine Wp.brnF (decide_eq_false (by omega)) ?_
   refine Wp.brn (fun hc2=>?_) (fun hc2=>?_)
   ·
    have hc2:=of_decide_eq_true hc2
    refine Wp.optF (Less_eq (l:=l) (i:=2 * i + 1 + 1) (j:=2 * i + 1) (by omega) (by omega) (by show l.length ≤ 1073741824; omega)) ?_
    refine Wp.brn (fun hs=>?_) (fun hs=>?_)
    ·
     have hs:lessI (rdL dI l (2 * i + 1 + 1)) (rdL dI l (2 * i + 1)) = true:=hs
     have hmin:∀ k,0 < k→k < n→(k - 1) / 2 = i→lessI (rdL dI l k) (rdL dI l (2 * i + 1 + 1)) = false:=by
      intro k hk hkn he
      rcases (by omega:k = 2 * i + 1 ∨ k = 2 * i + 1 + 1) with rfl | rfl
      ·
       exact lessO.asymm _ _ hs
      ·
       exact lessO.refl _
     refine Wp.optF (Less_eq (l:=l) (i:=2 * i + 1 + 1) (j:=i) (by omega) (by omega) (by show l.length ≤ 1073741824; omega)) ?_
     refine Wp.brn (fun hd=>?_) (fun hd=>?_)
     ·
      have hd:lessI (rdL dI l (2 * i + 1 + 1)) (rdL dI l i) = false:=by simpa [bnot] using hd
      refine Wp.done (Wp.brnT b1 (Wp.brnT b2 ?_))
      exact ⟨_,rfl,fin l hll hp hm (down_done dI h1 fun k hk hkn e=>lessO.trans _ _ _ hd (hmin k hk hkn e))⟩
     ·
      have hd:lessI (rdL dI l (2 * i + 1 + 1)) (rdL dI l i) = true:=by simpa [bnot] using hd
      have bj:inB (i6 (2 * i + 1 + 1)) (n + 1) = true:=i6_inB (by omega) (by omega)
      refine Wp.brnT bj (Wp.brnT bi (Wp.brnT bi (Wp.brnT (by rw [hset]; exact bj) ?_)))
      have ⟨g1,g2⟩:=step (2 * i + 1 + 1) hc2 (by omega) (by omega) hmin hd
      exact Wp.again g1 g2
    ·
     have hs:lessI (rdL dI l (2 * i + 1 + 1)) (rdL dI l (2 * i + 1)) = false:=hs
     have hmin:∀ k,0 < k→k < n→(k - 1) / 2 = i→lessI (rdL dI l k) (rdL dI l (2 * i + 1)) = false:=by
      intro k hk hkn he
      rcases (by omega:k = 2 * i + 1 ∨ k = 2 * i + 1 + 1) with rfl | rfl
      ·
       exact lessO.refl _
      ·
       exact hs
     refine Wp.optF (Less_eq (l:=l) (i:=2 * i + 1) (j:=i) (by omega) (by omega) (by show l.length ≤ 1073741824; omega)) ?_
     refine Wp.brn (fun hd=>?_) (fun hd=>?_)
     ·
      have hd:lessI (rdL dI l (2 * i + 1)) (rdL dI l i) = false:=by simpa [bnot] using hd
      refine Wp.done (Wp.brnT b1 (Wp.brnT b2 ?_))
      exact ⟨_,rfl,fin l hll hp hm (down_done dI h1 fun k hk hkn e=>lessO.trans _ _ _ hd (hmin k hk hkn e))⟩
     ·
      have hd:lessI (rdL dI l (2 * i + 1)) (rdL dI l i) = true:=by simpa [bnot] using hd
      have bj:inB (i6 (2 * i + 1)) (n + 1) = true:=i6_inB (by omega) (by omega)
      refine Wp.brnT bj (Wp.brnT bi (Wp.brnT bi (Wp.brnT (by rw [hset]; exact bj) ?_)))
      have ⟨g1,g2⟩:=step (2 * i + 1) (by omega) (by omega) (by omega) hmin hd
      exact Wp.again g1 g2
   ·
    have hc2:=of_decide_eq_false hc2
    have hmin:∀ k,0 < k→k < n→(k - 1) / 2 = i→lessI (rdL dI l k) (rdL dI l (2 * i + 1)) = false:=by
     intro k hk hkn he
     rcases (by omega:k = 2 * i + 1) with rfl
     exact lessO.refl _
    refine Wp.optF (Less_eq (l:=l) (i:=2 * i + 1) (j:=i) (by omega) (by omega) (by show l.length ≤ 1073741824; omega)) ?_
    refine Wp.brn (fun hd=>?_) (fun hd=>?_)
    ·
     have hd:lessI (rdL dI l (2 * i + 1)) (rdL dI l i) = false:=by simpa [bnot] using hd
     refine Wp.done (Wp.brnT b1 (Wp.brnT b2 ?_))
     exact ⟨_,rfl,fin l hll hp hm (down_done dI h1 fun k hk hkn e=>lessO.trans _ _ _ hd (hmin k hk hkn e))⟩
    ·
     have hd:lessI (rdL dI l (2 * i + 1)) (rdL dI l i) = true:=by simpa [bnot] using hd
     have bj:inB (i6 (2 * i + 1)) (n + 1) = true:=i6_inB (by omega) (by omega)
     refine Wp.brnT bj (Wp.brnT bi (Wp.brnT bi (Wp.brnT (by rw [hset]; exact bj) ?_)))
     have ⟨g1,g2⟩:=step (2 * i + 1) (by omega) (by omega) (by omega) hmin hd
     exact Wp.again g1 g2
 ·
  rw [swapL_at dI (by omega) (by omega),if_pos rfl]
  exact q.first dI lessO
 ·
  exact pop_start dI hn (by rw [← hn]; exact q.heap)
 ·
  rw [K0_eq]
  show n - _ < _
  omega
end Sym

/- The queue of debts: New, Order and the reference's order. -/
namespace Sym
open Go
noncomputable def ow (p:Post):Bool:=bnot (Ty.eqb (.arr 4 (.int .u64)) p.2.1 Z_U)
noncomputable def enum:Nat→List Post→List Item
 | _,[]=>[]
 | k,p :: l=>(if ow p = true then [(p,(i6 k,()))] else []) ++ enum (k + 1) l
theorem enum_app:∀ (l m:List Post) (k:Nat),enum k (l ++ m) = enum k l ++ enum (k + l.length) m
 | [],m,k=>by simp [enum]
 | p :: l,m,k=>by
  simp only [List.cons_append,enum,enum_app l m (k + 1),List.append_assoc,List.length_cons]
  rw [show k + 1 + l.length = k + (l.length + 1) by omega]
theorem enum_one (p:Post) (k:Nat):enum k [p] = if ow p = true then [(p,(i6 k,()))] else []:=by simp [enum]
theorem enum_len:∀ (l:List Post) (k:Nat),(enum k l).length ≤ l.length
 | [],k=>Nat.le_refl _
 | p :: l,k=>by
  have:=enum_len l (k + 1)
  simp only [enum,List.length_append,List.length_cons]
  split <;> simp <;> omega
theorem enum_mem:∀ (l:List Post) (k:Nat) (x:Item),x ∈ enum k l→∃ i,i < l.length∧x = (rdL dP l i,(i6 (k + i),()))∧ow x.1 = true
 | [],k,x,h=>by cases h
 | p :: l,k,x,h=>by
  simp only [enum,List.mem_append] at h
  rcases h with h | h
  ·
   split at h
   ·
    rename_i hp
    have h:=List.mem_singleton.1 h
    subst h
    exact ⟨0,by simp,rfl,hp⟩
   ·
    cases h
  ·
   obtain ⟨i,hi,e,ho⟩:=enum_mem l (k + 1) x h
   exact ⟨i + 1,by simpa using hi,by rw [e,show k + 1 + i = k + (i + 1) by omega]; rfl,ho⟩
theorem enum_take {a:List Post} {i:Nat} (h:i < a.length):enum 0 (a.take (i + 1)) = enum 0 (a.take i) ++ (if ow (rdL dP a i) = true then [(rdL dP a i,(i6 i,()))] else []):=by
 rw [List.take_succ_eq_append_getElem h,enum_app,enum_one,List.length_take,Nat.min_eq_left (by omega),Nat.zero_add,rdL_eq dP a i h]
theorem enum_anti {a:List Post} (ha:a.length ≤ 1073741824) {x y:Item} (hx:x ∈ enum 0 a) (hy:y ∈ enum 0 a) (h1:lessI y x = false) (h2:lessI x y = false):x = y:=by
 obtain ⟨i,hi,e1,_⟩:=enum_mem _ _ _ hx
 obtain ⟨j,hj,e2,_⟩:=enum_mem _ _ _ hy
 have h1:=(lessI_not _ _).1 h1
 have h2:=(lessI_not _ _).1 h2
 have a1:x.2.1.val = i:=by rw [e1]; show (i6 (0 + i)).val = _; rw [a1J (by omega)]; omega
 have a2:y.2.1.val = j:=by rw [e2]; show (i6 (0 + j)).val = _; rw [a1J (by omega)]; omega
 have:i = j:=by omega
 subst this
 rw [e1,e2]
noncomputable def sortI (a:List Post):List Item:=(enum 0 a).mergeSort fun x y=>!lessI y x
theorem sortI_perm (a:List Post):(sortI a).Perm (enum 0 a):=List.mergeSort_perm _ _
theorem sortI_ord (a:List Post):(sortI a).Pairwise fun x y=>lessI y x = false:=by
 have:=List.pairwise_mergeSort (le:=fun x y=>!lessI y x) (fun x y z h1 h2=>by
  simp only [Bool.not_eq_true'] at *
  exact lessO.trans _ _ _ h1 h2) (fun x y=>by
  cases h:lessI y x with
  | false=>rfl
  | true=>rw [lessO.asymm _ _ h]; rfl) (enum 0 a)
 exact this.imp (by simp)
theorem sortI_queued {a:List Post} (ha:a.length ≤ 1073741824) {h:List Item} (hh:HeapX dI (lt:=lessI) h.length (fun _=>False) h) (hp:h.Perm (enum 0 a)):QOf h (sortI a) :=
 ⟨hh,hp.trans (sortI_perm a).symm,sortI_ord a,fun x hx y hy h1 h2=>enum_anti ha ((sortI_perm a).mem_iff.1 hx) ((sortI_perm a).mem_iff.1 hy) h1 h2⟩
theorem sortI_len (a:List Post):(sortI a).length ≤ a.length:=by rw [(sortI_perm a).length_eq]; exact enum_len a 0
theorem New_ok {a:List Post} (ha:a.length ≤ 1073741824):∃ y,debtqueue_New K0 ((a,()),()) = some y∧∃ h,y = ((),(((),()),(h,())))∧QOf h (sortI a):=by
 refine Wp.out (T:=fun o=>∃ y,o = some y∧∃ h,y = ((),(((),()),(h,())))∧QOf h (sortI a)) ?_
 unfold debtqueue_New
 simp only [lenL_eq,i6_ofNat,of64_0,of64_1]
 refine Wp.iter (fun s=>∃ i h,s = ((a,(i6 a.length,(i6 i,()))),(((),()),(h,())))∧i ≤ a.length∧HeapX dI (lt:=lessI) h.length (fun _=>False) h∧h.Perm (enum 0 (a.take i))) (fun s=>a.length - s.1.2.2.1.val.toNat) ?_ ⟨0,[],rfl,by omega,fun k _ hk=>by simp at hk,by simp [enum]⟩ ?_
 ·
  rintro s ⟨i,h,rfl,hi,hh,hp⟩
  simp only [i6_ltb (show i < 9223372036854775808 by omega) (show a.length < 9223372036854775808 by omega),i6_nat (show i < 9223372036854775808 by omega),i6_add (show i + 1 < 9223372036854775808 by omega)]
  have hlen:h.length ≤ i:=by
   rw [hp.length_eq]
   exact Nat.le_trans (enum_len _ _) (by rw [List.length_take]; omega)
  refine Wp.brn (fun hc=>?_) (fun hc=>?_)
  ·
   have hc:=of_decide_eq_true hc
   have ht:=enum_take hc
   refine Wp.brnT (i6_inB (by omega) (by omega)) ?_
   have hm:a.length - (i6 (i + 1)).val.toNat < a.length - (i6 i).val.toNat:=by rw [a1J (by omega),a1J (by omega)]; omega
   refine Wp.brn (fun ho=>?_) (fun ho=>?_)
   ·
    rw [if_pos (show ow (rdL dP a i) = true from ho)] at ht
    refine Wp.call (Push_ok (x:=(rdL dP a i,(i6 i,()))) hh (by show _ ≤ 1073741824; omega)) ?_
    rintro y ⟨h',rfl,hh',hp'⟩
    refine Wp.again ⟨i + 1,h',rfl,by omega,hh',?_⟩ hm
    rw [ht]
    exact hp'.trans ((List.Perm.cons _ hp).trans (List.perm_append_comm (l₁:=[_]) (l₂:=_)))
   ·
    rw [if_neg (by rw [show ow (rdL dP a i) = false from ho]; simp),List.append_nil] at ht
    exact Wp.again ⟨i + 1,h,rfl,by omega,hh,by rw [ht]; exact hp⟩ hm
  ·
   have hc:=of_decide_eq_false hc
   refine Wp.done ⟨_,rfl,h,rfl,sortI_queued ha hh ?_⟩
   rw [List.take_of_length_le (by omega)] at hp
   exact hp
 ·
  rw [K0_eq]
  show a.length - _ < _
  omega
noncomputable def hdP:List Item→Post
 | []=>dP
 | m :: _=>m.1
theorem Pop_any {h r:List Item} (q:QOf h r) (hl:r.length ≤ 1073741824) :
  ∃ y,debtqueue_Queue_Pop K0 ((),(((),()),(h,()))) = some y∧∃ h',y = ((hdP r,(!r.isEmpty,())),(((),()),(h',())))∧QOf h' r.tail:=by
 cases r with
 | nil =>
  have:=q.nil
  subst this
  exact ⟨_,Pop_nil,[],rfl,q⟩
 | cons m r=>exact Pop_ok q (by show _ ≤ 1073741824; rw [q.len]; exact hl)
end Sym

/- The queue of debts: the reference, comparisons of lists. -/
namespace Sym
open Go
end Sym

/- The laws of the queue of debts. -/
namespace Sym
open Go
end Sym

/- The laws of the queue of debts: complete, empty, any order of the list. -/
namespace Sym
open Go
theorem enum_fst:∀ (l:List Post) (k:Nat),(enum k l).map (·.1) = l.filter ow
 | [],k=>rfl
 | p :: l,k=>by
  simp only [enum,List.map_append,enum_fst l (k + 1),List.filter_cons]
  split <;> simp
theorem sortI_filter (a:List Post):((sortI a).map (·.1)).Perm (a.filter ow):=by
 rw [← enum_fst a 0]
 exact (sortI_perm a).map _
end Sym

/- Tables of posters: which are valid, where one stands. -/
namespace Sym
open Go
abbrev A5:Type:=(I .u64) × U
def val5 (s:A5):Nat:=s.1.nat + 18446744073709551616 * U.val s.2
theorem val5_ext {s t:A5} (h:val5 s = val5 t):s = t:=by
 unfold val5 at h
 have h1:=a2B s.1
 have h2:=a2B t.1
 have h3:s.1.nat = t.1.nat:=by omega
 have h4:U.val s.2 = U.val t.2:=by omega
 have h5:s.1 = t.1:=by rw [← nat_of s.1,← nat_of t.1,h3]
 exact Prod.ext h5 (U.ext h4)
theorem K0_fiveP:∃ k,K0 = k + 5:=⟨2 ^ 64 - 5,by rw [K0_eq]⟩
theorem poster_sum_ok (a b:U):∃ y,poster_sum K0 ((a,(b,())),()) = some y∧∃ s:A5,y = ((s,()),())∧val5 s = a.val + b.val:=by
 obtain ⟨a0,a1,a2,a3,⟨⟩⟩:=a
 obtain ⟨b0,b1,b2,b3,⟨⟩⟩:=b
 refine Wp.out (T:=fun o=>∃ y,o = some y∧∃ s:A5,y = ((s,()),())∧val5 s = U.val (a0,a1,a2,a3,()) + U.val (b0,b1,b2,b3,())) ?_
 unfold poster_sum
 obtain ⟨k,hk⟩:=K0_fiveP
 rw [hk]
 have step:∀ (x y c:I .u64),c.nat ≤ 1→∃ r,add64F ((x,(y,(c,()))),()) = some r∧∃ z q:I .u64,r = ((z,(q,())),())∧z.nat + 18446744073709551616 * q.nat = x.nat + y.nat + c.nat∧q.nat ≤ 1:=fun x y c hc=>by
  obtain ⟨z,q,h1,h2,h3⟩:=add64_nat x y c hc
  exact ⟨_,h1,z,q,rfl,h2,h3⟩
 refine Wp.unroll (Wp.brnT rfl (Wp.brnT rfl (Wp.brnT rfl ?_)))
 refine Wp.call (step a0 b0 (I.of .u64 0) (by decide)) ?_
 rintro _ ⟨z0,q0,rfl,e0,l0⟩
 refine Wp.brnT rfl (Wp.next ?_)
 refine Wp.unroll (Wp.brnT rfl (Wp.brnT rfl (Wp.brnT rfl ?_)))
 refine Wp.call (step a1 b1 q0 l0) ?_
 rintro _ ⟨z1,q1,rfl,e1,l1⟩
 refine Wp.brnT rfl (Wp.next ?_)
 refine Wp.unroll (Wp.brnT rfl (Wp.brnT rfl (Wp.brnT rfl ?_)))
 refine Wp.call (step a2 b2 q1 l1) ?_
 rintro _ ⟨z2,q2,rfl,e2,l2⟩
 refine Wp.brnT rfl (Wp.next ?_)
 refine Wp.unroll (Wp.brnT rfl (Wp.brnT rfl (Wp.brnT rfl ?_)))
 refine Wp.call (step a3 b3 q2 l2) ?_
 rintro _ ⟨z3,q3,rfl,e3,l3⟩
 refine Wp.brnT rfl (Wp.next ?_)
 refine Wp.unroll (Wp.brnF rfl (Wp.stop ?_))
 refine ⟨_,rfl,(z0,(z1,z2,z3,q3,())),rfl,?_⟩
 have h0:(I.of .u64 0).nat = 0:=rfl
 rw [h0] at e0
 simp only [val5,U.val]
 omega
abbrev Post.costs (p:Post):U:=p.2.2.1
abbrev Post.rewards (p:Post):U:=p.2.2.2.1
abbrev Post.paid (p:Post):U:=p.2.2.2.2.1
def EntryOk (p:Post):Prop:=(Post.addr p).val ≠ 0∧(Post.due p).val + (Post.paid p).val = (Post.costs p).val + (Post.rewards p).val∧((Post.since p).val = 0 ↔ (Post.due p).val = 0)
def TableOk (l:List Post):Prop:=l.length ≤ 64∧∀ i,i < l.length→EntryOk (rdL dP l i)∧(0 < i→(Post.addr (rdL dP l (i - 1))).val < (Post.addr (rdL dP l i)).val)
open Classical in
noncomputable def tabB (l:List Post):Bool:=decide (TableOk l)
open Classical in
theorem tabB_t {l:List Post}:tabB l = true ↔ TableOk l:=by unfold tabB; exact decide_eq_true_iff
open Classical in
theorem tabB_f {l:List Post}:tabB l = false ↔ ¬ TableOk l:=by unfold tabB; exact decide_eq_false_iff_not
theorem eqb_zU (a:U):Ty.eqb (.arr 4 (.int .u64)) a Z_U = decide (a.val = 0):=by
 rw [eqb_u256]
 rw [show U.val Z_U = 0 from rfl]
theorem poster_isZero_eq (a:U):poster_isZero K0 ((a,()),()) = some ((decide (a.val = 0),()),()):=by
 show some _ = _
 rw [show Ty.eqb (.arr 4 (.int .u64)) ((a,()),()).1.1 Z_U = decide (a.val = 0) from eqb_zU a]
 rfl
theorem eqbB_iff (a b:Bool):Ty.eqb .bool a b = true ↔ a = b:=eqb_iff .bool rfl a b
end Sym

/- Tables of posters: both programs' Valid and Find. -/
namespace Sym
open Go
def TabTo (l:List Post) (i:Nat):Prop:=∀ k,k < i→EntryOk (rdL dP l k)∧(0 < k→(Post.addr (rdL dP l (k - 1))).val < (Post.addr (rdL dP l k)).val)
theorem TabTo.succ {l:List Post} {i:Nat} (h:TabTo l i) (h1:EntryOk (rdL dP l i)) (h2:0 < i→(Post.addr (rdL dP l (i - 1))).val < (Post.addr (rdL dP l i)).val):TabTo l (i + 1):=by
 intro k hk
 rcases (by omega:k < i ∨ k = i) with h3 | rfl
 ·
  exact h k h3
 ·
  exact ⟨h1,h2⟩
theorem not_tab {l:List Post} {i:Nat} (hi:i < l.length) (h:¬ (EntryOk (rdL dP l i)∧(0 < i→(Post.addr (rdL dP l (i - 1))).val < (Post.addr (rdL dP l i)).val))):tabB l = false:=tabB_f.2 fun ht=>h (ht.2 i hi)
theorem PValid_eq {l:List Post} (hl:l.length ≤ 1073741824):poster_Valid K0 ((l,()),()) = some ((tabB l,()),()):=by
 refine Wp.out (T:=fun o=>o = some ((tabB l,()),())) ?_
 unfold poster_Valid
 simp only [lenL_eq,i6_ofNat,of64_0,of64_1]
 refine Wp.iter (fun s=>∃ i,s = ((l,(l,(i6 l.length,(i6 i,())))),())∧i ≤ l.length∧TabTo l i) (fun s=>l.length - s.1.2.2.2.1.val.toNat) ?_ ⟨0,rfl,by omega,fun k hk=>by omega⟩ ?_
 ·
  rintro s ⟨i,rfl,hi,ht⟩
  simp only [i6_ltb (show i < 9223372036854775808 by omega) (show l.length < 9223372036854775808 by omega),i6_ltb (show 0 < 9223372036854775808 by omega) (show i < 9223372036854775808 by omega),i6_nat (show i < 9223372036854775808 by omega),i6_add (show i + 1 < 9223372036854775808 by omega)]
  refine Wp.brn (fun hc=>?_) (fun hc=>?_)
  ·
   have hc:=of_decide_eq_true hc
   have hm:l.length - (i6 (i + 1)).val.toNat < l.length - (i6 i).val.toNat:=by rw [a1J (by omega),a1J (by omega)]; omega
   have bi:inB (i6 i) l.length = true:=i6_inB (by omega) (by omega)
   refine Wp.brnT bi ?_
   have hEq:EntryOk (rdL dP l i) ↔ ((Post.addr (rdL dP l i)).val ≠ 0∧(Post.due (rdL dP l i)).val + (Post.paid (rdL dP l i)).val = (Post.costs (rdL dP l i)).val + (Post.rewards (rdL dP l i)).val∧((Post.since (rdL dP l i)).val = 0 ↔ (Post.due (rdL dP l i)).val = 0)):=Iff.rfl
   refine Wp.jn (fun s=>∃ b1 b2 b3 n,s = ((l,(l,(i6 l.length,(i6 i,(n,(b1,(b2,(b3,())))))))),(rdL dP l i,()))∧(Post.addr (rdL dP l i)).val ≠ 0∧(0 < i→(Post.addr (rdL dP l (i - 1))).val < (Post.addr (rdL dP l i)).val)) ?_ ?_
   ·
    rintro s ⟨b1,b2,b3,n,rfl,ha,hlt⟩
    refine Wp.call (poster_sum_ok _ _) ?_
    rintro _ ⟨s1,rfl,e1⟩
    refine Wp.call (poster_sum_ok _ _) ?_
    rintro _ ⟨s2,rfl,e2⟩
    have e1:val5 s1 = (Post.due (rdL dP l i)).val + (Post.paid (rdL dP l i)).val:=e1
    have e2:val5 s2 = (Post.costs (rdL dP l i)).val + (Post.rewards (rdL dP l i)).val:=e2
    have hs:Ty.eqb (.arr 5 (.int .u64)) s1 s2 = true ↔ s1 = s2:=eqb_iff (.arr 5 (.int .u64)) rfl s1 s2
    refine Wp.brn (fun h=>?_) (fun h=>?_)
    ·
     have h:¬ s1 = s2:=fun e=>by
      have e3:=hs.2 e
      have:bnot (Ty.eqb (.arr 5 (.int .u64)) s1 s2) = true:=h
      rw [e3] at this
      cases this
     refine Wp.done ?_
     rw [not_tab hc fun h2=>h (val5_ext (by rw [e1,e2]; exact (hEq.1 h2.1).2.1))]
     rfl
    ·
     have h:s1 = s2:=hs.1 (by
      have:bnot (Ty.eqb (.arr 5 (.int .u64)) s1 s2) = false:=h
      revert this
      cases Ty.eqb (.arr 5 (.int .u64)) s1 s2 <;> simp [bnot])
     have h5:(Post.due (rdL dP l i)).val + (Post.paid (rdL dP l i)).val = (Post.costs (rdL dP l i)).val + (Post.rewards (rdL dP l i)).val:=by rw [← e1,← e2,h]
     refine Wp.optF (poster_isZero_eq _) ?_
     have hz:Ty.eqb .bool (I.eqb (Post.since (rdL dP l i)) (I.of .u64 0)) (decide ((Post.due (rdL dP l i)).val = 0)) = true ↔ ((Post.since (rdL dP l i)).val = 0 ↔ (Post.due (rdL dP l i)).val = 0):=by
      rw [eqbB_iff]
      constructor
      ·
       intro hb
       constructor
       ·
        intro h0
        exact of_decide_eq_true (hb.symm.trans (iff_eqb.2 h0))
       ·
        intro h0
        exact iff_eqb.1 (hb.trans (decide_eq_true h0))
      ·
       intro h3
       by_cases h0:(Post.due (rdL dP l i)).val = 0
       ·
        exact (iff_eqb.2 (h3.2 h0)).trans (decide_eq_true h0).symm
       ·
        exact (niff_eqb.2 (fun e=>h0 (h3.1 e))).trans (decide_eq_false h0).symm
     refine Wp.brn (fun h=>?_) (fun h=>?_)
     ·
      refine Wp.done ?_
      rw [not_tab hc fun h2=>by
       have e3:=hz.2 (hEq.1 h2.1).2.2
       have:bnot (Ty.eqb .bool (I.eqb (Post.since (rdL dP l i)) (I.of .u64 0)) (decide ((Post.due (rdL dP l i)).val = 0))) = true:=h
       rw [e3] at this
       cases this]
      rfl
     ·
      have h6:=hz.1 (by
       have:bnot (Ty.eqb .bool (I.eqb (Post.since (rdL dP l i)) (I.of .u64 0)) (decide ((Post.due (rdL dP l i)).val = 0))) = false:=h
       revert this
       cases Ty.eqb .bool (I.eqb (Post.since (rdL dP l i)) (I.of .u64 0)) (decide ((Post.due (rdL dP l i)).val = 0)) <;> simp [bnot])
      simp only [i6_add (show i + 1 < 9223372036854775808 by omega)]
      exact Wp.again ⟨i + 1,rfl,by omega,ht.succ (hEq.2 ⟨ha,h5,h6⟩) hlt⟩ hm
   ·
    intro j hj
    refine Wp.brn (fun h=>?_) (fun h=>?_)
    ·
     have h:=iff_eqb.1 h
     refine Wp.done ?_
     rw [not_tab hc fun h2=>(hEq.1 h2.1).1 h]
     rfl
    ·
     have ha:=niff_eqb.1 h
     refine Wp.brn (fun h0=>?_) (fun h0=>?_)
     ·
      have h0:=of_decide_eq_true h0
      simp only [i6_sub (show i < 9223372036854775808 by omega) (show 1 ≤ i by omega),i6_nat (show i - 1 < 9223372036854775808 by omega)]
      refine Wp.brnT (i6_inB (by omega) (by omega)) ?_
      refine Wp.brn (fun hl=>?_) (fun hl=>?_)
      ·
       have hl:=iff_leb.1 hl
       refine Wp.done ?_
       rw [not_tab hc fun h2=>by have:=h2.2 h0; exact absurd this (Int.not_lt.2 hl)]
       rfl
      ·
       have hl:=niff_leb.1 hl
       exact hj _ ⟨_,_,_,_,rfl,ha,fun _=>hl⟩
     ·
      have h0:=of_decide_eq_false h0
      exact hj _ ⟨_,_,_,_,rfl,ha,fun h=>by omega⟩
  ·
   have hc:=of_decide_eq_false hc
   refine Wp.done ?_
   have e:I.leb (i6 l.length) (I.of .i64 64) = tabB l:=by
    by_cases h64:l.length ≤ 64
    ·
     rw [tabB_t.2 ⟨h64,fun k hk=>ht k (by omega)⟩]
     exact iff_leb.2 (by rw [a1J (by omega),show (I.of .i64 64).val = 64 from rfl]; omega)
    ·
     rw [tabB_f.2 fun h=>h64 h.1]
     exact niff_leb.2 (by rw [a1J (by omega),show (I.of .i64 64).val = 64 from rfl]; omega)
   rw [← e]
   rfl
 ·
  rw [K0_eq]
  show l.length - _ < _
  omega
def atN (l:List Post) (a:I .u64):Nat:=l.findIdx fun p=>I.eqb (Post.addr p) a
def atI (l:List Post) (a:I .u64):I .i64:=if atN l a < l.length then i6 (atN l a) else I.of .i64 (-1)
theorem atN_of {l:List Post} {a:I .u64} {i:Nat} (hi:i < l.length) (h1:I.eqb (Post.addr (rdL dP l i)) a = true) (h2:∀ k,k < i→I.eqb (Post.addr (rdL dP l k)) a = false):atN l a = i:=by
 unfold atN
 rw [List.findIdx_eq hi]
 refine ⟨by rw [← rdL_eq dP l i hi]; exact h1,fun k hk=>?_⟩
 rw [← rdL_eq dP l k (by omega)]
 exact h2 k hk
theorem atN_none {l:List Post} {a:I .u64} (h2:∀ k,k < l.length→I.eqb (Post.addr (rdL dP l k)) a = false):atN l a = l.length:=by
 unfold atN
 rw [List.findIdx_eq_length]
 intro x hx
 obtain ⟨k,hk,rfl⟩:=mem_rdL dP hx
 exact h2 k hk
theorem PFind_eq {l:List Post} (a:I .u64) (hl:l.length ≤ 1073741824):poster_Find K0 ((l,(a,())),()) = some ((atI l a,()),()):=by
 refine Wp.out (T:=fun o=>o = some ((atI l a,()),())) ?_
 unfold poster_Find
 simp only [lenL_eq,i6_ofNat,of64_0,of64_1]
 refine Wp.iter (fun s=>∃ i,s = ((l,(((),()),(i6 l.length,(i6 i,())))),(a,()))∧i ≤ l.length∧∀ k,k < i→I.eqb (Post.addr (rdL dP l k)) a = false) (fun s=>l.length - s.1.2.2.2.1.val.toNat) ?_ ⟨0,rfl,by omega,fun k hk=>by omega⟩ ?_
 ·
  rintro s ⟨i,rfl,hi,ht⟩
  simp only [i6_ltb (show i < 9223372036854775808 by omega) (show l.length < 9223372036854775808 by omega),i6_nat (show i < 9223372036854775808 by omega),i6_add (show i + 1 < 9223372036854775808 by omega)]
  refine Wp.brn (fun hc=>?_) (fun hc=>?_)
  ·
   have hc:=of_decide_eq_true hc
   refine Wp.brnT (i6_inB (by omega) (by omega)) ?_
   refine Wp.brn (fun h=>?_) (fun h=>?_)
   ·
    refine Wp.done ?_
    have e:=atN_of hc h ht
    unfold atI
    rw [e,if_pos hc]
    rfl
   ·
    refine Wp.again ⟨i + 1,rfl,by omega,fun k hk=>?_⟩ (by show l.length - (i6 (i + 1)).val.toNat < l.length - (i6 i).val.toNat; rw [a1J (by omega),a1J (by omega)]; omega)
    rcases (by omega:k < i ∨ k = i) with h3 | rfl
    ·
     exact ht k h3
    ·
     exact h
  ·
   have hc:=of_decide_eq_false hc
   refine Wp.done ?_
   have e:=atN_none fun k hk=>ht k (by omega)
   unfold atI
   rw [if_neg (by omega)]
   rfl
 ·
  rw [K0_eq]
  show l.length - _ < _
  omega
end Sym

/- Tables of posters: Settle, sums. -/
namespace Sym
open Go
noncomputable def settled (p:Post) (n:U):Post :=
 (p.addr,(U.of (p.due.val - n.val),(p.costs,(p.rewards,(U.of (p.paid.val + n.val),((if p.due.val - n.val = 0 then I.of .u64 0 else p.since),()))))))
noncomputable def settleS (l:List Post) (a:I .u64) (n:U):List Post × I .i64 :=
 if tabB l = true then
  if atN l a < l.length then
   if n.val ≤ (Post.due (rdL dP l (atN l a))).val then
    if (Post.paid (rdL dP l (atN l a))).val + n.val < U.top then (setAt l (atN l a) (settled (rdL dP l (atN l a)) n),I.of .i64 0)
    else ([],I.of .i64 4)
   else ([],I.of .i64 10)
  else ([],I.of .i64 8)
 else ([],I.of .i64 2)
theorem atI_neg {l:List Post} {a:I .u64} (hl:l.length ≤ 1073741824):I.ltb (atI l a) (I.of .i64 0) = decide (¬ atN l a < l.length):=by
 unfold atI
 by_cases h:atN l a < l.length
 ·
  rw [if_pos h,decide_eq_false (by simpa using h)]
  exact niff_ltb.2 (by rw [a1J (by omega)]; show (0:Int) ≤ _; omega)
 ·
  rw [if_neg h,decide_eq_true h]
  rfl
theorem Clone_ok (l:List Post) (hl:l.length ≤ 1073741824):a0S K0 ((l,()),()) = some ((),(l,())):=by
 refine Wp.out (T:=fun o=>o = _) ?_
 unfold a0S
 refine Wp.brn (fun h=>?_) (fun h=>?_)
 ·
  have h:l.length = 0:=by
   have:emptyN l.length = true:=h
   exact Nat.eq_of_beq_eq_true this
  have:=List.eq_nil_of_length_eq_zero h
  subst this
  show both _ _ _ = _
  have hb:brn (a1Z (a1I (appL ([]:List Post) []))) (some ((),(appL ([]:List Post) [],()))) none = some ((),(([]:List Post),())):=rfl
  exact both_eq rfl
 ·
  exact Wp.brnT (fits_le (by show ([] ++ l).length ≤ _; simpa using hl)) rfl
theorem PSettle_eq (l:List Post) (a:I .u64) (n:U) (hl:l.length ≤ 1073741824):poster_Settle K0 ((l,(a,(n,()))),()) = some (((settleS l a n).1,((settleS l a n).2,())),()):=by
 refine Wp.out (T:=fun o=>o = _) ?_
 unfold poster_Settle
 refine Wp.optF (PFind_eq a hl) (Wp.optF (PValid_eq hl) ?_)
 unfold settleS
 refine Wp.brn (fun h=>?_) (fun h=>?_)
 ·
  have h:tabB l = false:=by have:bnot (tabB l) = true:=h; revert this; cases tabB l <;> simp [bnot]
  rw [if_neg (by rw [h]; simp)]
  rfl
 ·
  have h:tabB l = true:=by have:bnot (tabB l) = false:=h; revert this; cases tabB l <;> simp [bnot]
  rw [if_pos h]
  refine Wp.brn (fun h=>?_) (fun h=>?_)
  ·
   have h:=of_decide_eq_true ((atI_neg hl).symm.trans h)
   rw [if_neg h]
   rfl
  ·
   have h:=of_decide_eq_false ((atI_neg hl).symm.trans h)
   have h:atN l a < l.length:=by simpa using h
   rw [if_pos h]
   have e:atI l a = i6 (atN l a):=if_pos h
   simp only [e,i6_nat (show atN l a < 9223372036854775808 by omega)]
   have bi:inB (i6 (atN l a)) l.length = true:=i6_inB h (by omega)
   refine Wp.brnT bi ?_
   refine Wp.optF (uint256_Sub_eq _ _) ?_
   generalize rdL dP l (atN l a) = p
   by_cases hd:n.val ≤ (Post.due p).val
   ·
    rw [if_pos hd]
    have es:subS (Post.due p) n = (U.of ((Post.due p).val - n.val),I.of .i64 0):=if_pos hd
    rw [es]
    refine Wp.brnF rfl ?_
    refine Wp.optF (Add_errS _ _) ?_
    by_cases hp:(Post.paid p).val + n.val < U.top
    ·
     rw [if_pos hp]
     rw [errS_lt hp]
     refine Wp.brnF rfl ?_
     refine Wp.jn (fun s=>s = ((l,(i6 (atN l a),())),(settled p n,()))) ?_ ?_
     ·
      rintro s rfl
      refine Wp.optF (Clone_ok l hl) ?_
      simp only [i6_nat (show atN l a < 9223372036854775808 by omega)]
      exact Wp.brnT bi rfl
     ·
      intro j hj
      refine Wp.optF (poster_isZero_eq _) ?_
      have hv:(U.of ((Post.due p).val - n.val)).val = (Post.due p).val - n.val:=U.val_of (by have:=U.lt (Post.due p); omega)
      refine Wp.brn (fun hz=>?_) (fun hz=>?_)
      ·
       have hz:=of_decide_eq_true hz
       have hz:(Post.due p).val - n.val = 0:=hv.symm.trans hz
       refine hj _ ?_
       unfold settled
       rw [if_pos hz]
      ·
       have hz:=of_decide_eq_false hz
       have hz:¬ (Post.due p).val - n.val = 0:=fun e=>hz (hv.trans e)
       refine hj _ ?_
       unfold settled
       rw [if_neg hz]
    ·
     rw [if_neg hp]
     have e4:errS ((Post.paid p).val + n.val) = (U.of 0,I.of .i64 4):=errS_ge (Nat.le_of_not_lt hp)
     rw [show errS (U.val p.2.2.2.2.1 + n.val) = (U.of 0,I.of .i64 4) from e4]
     exact Wp.brnT rfl rfl
   ·
    rw [if_neg hd]
    have es:subS (Post.due p) n = (U.of 0,I.of .i64 4):=if_neg hd
    rw [es]
    exact Wp.brnT rfl rfl
end Sym

/- Payments: sums, both programs' plans. -/
namespace Sym
open Go
abbrev Pay:Type:=a0D
noncomputable abbrev dY:Pay:=a1S
theorem zU_of:Z_U = U.of 0:=by apply U.ext; rfl
def sumN (l:List Nat):Nat:=l.foldr (· + ·) 0
theorem sumN_app (l m:List Nat):sumN (l ++ m) = sumN l + sumN m:=by
 induction l with
 | nil=>simp [sumN]
 | cons x l ih=>simp only [sumN,List.cons_append,List.foldr_cons] at *; omega
theorem sumN_take {X:Type} (d:X) (f:X→Nat) {l:List X} {i:Nat} (h:i < l.length):sumN ((l.take (i + 1)).map f) = sumN ((l.take i).map f) + f (rdL d l i):=by
 rw [List.take_succ_eq_append_getElem h,List.map_append,sumN_app,← rdL_eq d l i h]
 simp [sumN]
theorem sumN_le {X:Type} (f:X→Nat) (l:List X) (i:Nat):sumN ((l.take i).map f) ≤ sumN (l.map f):=by
 have:sumN (l.map f) = sumN ((l.take i).map f) + sumN ((l.drop i).map f):=by
  rw [← sumN_app,← List.map_append,List.take_append_drop]
 omega
def amt (q:Pay):Nat:=U.val q.2.1
theorem PSum_eq {l:List Pay} (hl:l.length ≤ 1073741824):payout_Sum K0 ((l,()),()) = some (((errS (sumN (l.map amt))).1,((errS (sumN (l.map amt))).2,())),()):=by
 refine Wp.out (T:=fun o=>o = _) ?_
 unfold payout_Sum
 simp only [lenL_eq,i6_ofNat,of64_0,of64_1]
 refine Wp.iter (fun s=>∃ i,s = ((l,(i6 l.length,(i6 i,()))),(Z_U,(U.of (sumN ((l.take i).map amt)),())))∧i ≤ l.length∧sumN ((l.take i).map amt) < U.top) (fun s=>l.length - s.1.2.2.1.val.toNat) ?_ ⟨0,by rw [zU_of]; rfl,by omega,by show (0:Nat) < _; decide⟩ ?_
 ·
  rintro s ⟨i,rfl,hi,ht⟩
  simp only [i6_ltb (show i < 9223372036854775808 by omega) (show l.length < 9223372036854775808 by omega),i6_nat (show i < 9223372036854775808 by omega),i6_add (show i + 1 < 9223372036854775808 by omega)]
  refine Wp.brn (fun hc=>?_) (fun hc=>?_)
  ·
   have hc:=of_decide_eq_true hc
   refine Wp.brnT (i6_inB (by omega) (by omega)) ?_
   refine Wp.optF (Add_errS' ht _) ?_
   have hs:=sumN_take dY amt hc
   have hs':sumN ((l.take i).map amt) + U.val (rdL a1S l i).2.1 = sumN ((l.take (i + 1)).map amt):=hs.symm
   rw [hs']
   by_cases h:sumN ((l.take (i + 1)).map amt) < U.top
   ·
    rw [errS_lt h]
    refine Wp.brnF rfl ?_
    exact Wp.again ⟨i + 1,rfl,by omega,h⟩ (by show l.length - (i6 (i + 1)).val.toNat < l.length - (i6 i).val.toNat; rw [a1J (by omega),a1J (by omega)]; omega)
   ·
    have h2:=sumN_le amt l (i + 1)
    rw [errS_ge (n:=sumN ((l.take (i + 1)).map amt)) (by omega),errS_ge (n:=sumN (l.map amt)) (by omega),zU_of]
    exact Wp.brnT rfl (Wp.done rfl)
  ·
   have hc:=of_decide_eq_false hc
   rw [List.take_of_length_le (by omega)] at ht ⊢
   rw [errS_lt ht]
   exact Wp.done rfl
 ·
  rw [K0_eq]
  show l.length - _ < _
  omega
def dueN (p:Post):Nat:=U.val p.due
theorem TotalDue_eq {l:List Post} (hl:l.length ≤ 1073741824):poster_TotalDue K0 ((l,()),()) = if tabB l = true then some (((errS (sumN (l.map dueN))).1,((errS (sumN (l.map dueN))).2,())),()) else some ((Z_U,(I.of .i64 2,())),()):=by
 refine Wp.out (T:=fun o=>o = _) ?_
 unfold poster_TotalDue
 simp only [lenL_eq,i6_ofNat,of64_0,of64_1]
 refine Wp.optF (PValid_eq hl) ?_
 refine Wp.brn (fun h=>?_) (fun h=>?_)
 ·
  have h:tabB l = false:=by have:bnot (tabB l) = true:=h; revert this; cases tabB l <;> simp [bnot]
  rw [if_neg (by rw [h]; simp)]
  rfl
 ·
  have h:tabB l = true:=by have:bnot (tabB l) = false:=h; revert this; cases tabB l <;> simp [bnot]
  rw [if_pos h]
  refine Wp.iter (fun s=>∃ i,s = ((l,(i6 l.length,(i6 i,()))),(Z_U,(U.of (sumN ((l.take i).map dueN)),())))∧i ≤ l.length∧sumN ((l.take i).map dueN) < U.top) (fun s=>l.length - s.1.2.2.1.val.toNat) ?_ ⟨0,by rw [zU_of]; rfl,by omega,by show (0:Nat) < _; decide⟩ ?_
  ·
   rintro s ⟨i,rfl,hi,ht⟩
   simp only [i6_ltb (show i < 9223372036854775808 by omega) (show l.length < 9223372036854775808 by omega),i6_nat (show i < 9223372036854775808 by omega),i6_add (show i + 1 < 9223372036854775808 by omega)]
   refine Wp.brn (fun hc=>?_) (fun hc=>?_)
   ·
    have hc:=of_decide_eq_true hc
    refine Wp.brnT (i6_inB (by omega) (by omega)) ?_
    refine Wp.optF (Add_errS' ht _) ?_
    have hs:=sumN_take dP dueN hc
    have hs':sumN ((l.take i).map dueN) + U.val (rdL a1E l i).2.1 = sumN ((l.take (i + 1)).map dueN):=hs.symm
    rw [hs']
    by_cases h:sumN ((l.take (i + 1)).map dueN) < U.top
    ·
     rw [errS_lt h]
     refine Wp.brnF rfl ?_
     exact Wp.again ⟨i + 1,rfl,by omega,h⟩ (by show l.length - (i6 (i + 1)).val.toNat < l.length - (i6 i).val.toNat; rw [a1J (by omega),a1J (by omega)]; omega)
    ·
     have h2:=sumN_le dueN l (i + 1)
     rw [errS_ge (n:=sumN ((l.take (i + 1)).map dueN)) (by omega),errS_ge (n:=sumN (l.map dueN)) (by omega),zU_of]
     exact Wp.brnT rfl (Wp.done rfl)
   ·
    have hc:=of_decide_eq_false hc
    rw [List.take_of_length_le (by omega)] at ht ⊢
    rw [errS_lt ht]
    exact Wp.done rfl
  ·
   rw [K0_eq]
   show l.length - _ < _
   omega
noncomputable def planS:List Post→Nat→List Pay
 | [],_=>[]
 | p :: r,n=>if n = 0 then [] else (p.addr,(U.of (min (dueN p) n),())) :: planS r (n - min (dueN p) n)
theorem planS_zero (l:List Post):planS l 0 = []:=by cases l <;> simp [planS]
theorem planS_len:∀ (l:List Post) (n:Nat),(planS l n).length ≤ l.length
 | [],n=>Nat.le_refl _
 | p :: r,n=>by
  have:=planS_len r (n - min (dueN p) n)
  simp only [planS]
  split <;> simp <;> omega
noncomputable def planR (l:List Post) (pool:U):List Pay × I .i64 :=
 if tabB l = true then (planS ((sortI l).map (·.1)) pool.val,I.of .i64 0) else ([],I.of .i64 2)
theorem nz_u {a:U}:bnot (Ty.eqb (.arr 4 (.int .u64)) a Z_U) = decide (a.val ≠ 0):=by
 rw [eqb_zU]
 by_cases h:a.val = 0 <;> simp [h,bnot]
theorem PPlan_eq (l:List Post) (pool:U) (hl:l.length ≤ 1073741824):payout_Plan K0 ((l,(pool,())),()) = some (((planR l pool).1,((planR l pool).2,())),()):=by
 refine Wp.out (T:=fun o=>o = _) ?_
 unfold payout_Plan planR
 refine Wp.optF (PValid_eq hl) ?_
 refine Wp.brn (fun h=>?_) (fun h=>?_)
 ·
  have h:tabB l = false:=by have:bnot (tabB l) = true:=h; revert this; cases tabB l <;> simp [bnot]
  rw [if_neg (by rw [h]; simp)]
  rfl
 ·
  have h:tabB l = true:=by have:bnot (tabB l) = false:=h; revert this; cases tabB l <;> simp [bnot]
  rw [if_pos h]
  refine Wp.call (New_ok hl) ?_
  rintro _ ⟨h0,rfl,q0⟩
  have hs:=sortI_len l
  have q0:QOf h0 (sortI l):=q0
  refine Wp.call (Pop_any q0 (by omega)) ?_
  rintro _ ⟨h1,rfl,q1⟩
  refine Wp.iter (fun s=>∃ r h out n,s = ((!r.isEmpty,()),(n,(out,(((),()),(h,(hdP r,()))))))∧QOf h r.tail∧out ++ planS (r.map (·.1)) (U.val n) = planS ((sortI l).map (·.1)) pool.val∧out.length + r.length ≤ (sortI l).length) (fun s=>(sortI l).length - s.2.2.1.length) ?_ ⟨sortI l,h1,[],pool,rfl,q1,rfl,by simp⟩ ?_
  ·
   rintro s ⟨r,h,out,n,rfl,q,ho,hol⟩
   have fin:out = planS ((sortI l).map (·.1)) pool.val→Wp (fun o=>o = some (((planS ((sortI l).map (·.1)) pool.val,I.of .i64 0).1,((planS ((sortI l).map (·.1)) pool.val,I.of .i64 0).2,())),())) (some ((out,((I.of .i64 0),())),())):=fun e=>by rw [e]; rfl
   refine Wp.jn (fun s=>∃ z b m r',r = m :: r'∧U.val n ≠ 0∧s = ((n,(z,(b,()))),(n,(out,(((),()),(h,(m.1,()))))))) ?_ ?_
   ·
    rintro s ⟨z,b,m,r',rfl,hn,rfl⟩
    refine Wp.optF (uint256_Min_eq _ _) ?_
    refine Wp.optF (SatSub_ok _ _) ?_
    have hol':out.length + (r'.length + 1) ≤ (sortI l).length:=hol
    refine Wp.brnT (fits_le (by show (out ++ [_]).length ≤ _; simp; omega)) ?_
    have q:QOf h r':=q
    refine Wp.call (Pop_any q (by omega)) ?_
    rintro _ ⟨h',rfl,q'⟩
    have e1:minS (Post.due m.1) n = U.of (min (dueN m.1) (U.val n)):=by
     rw [← U.of_val (minS (Post.due m.1) n),minS_val]
     rfl
    refine Wp.again ⟨r',h',out ++ [(Post.addr m.1,(minS (Post.due m.1) n,()))],U.of (U.val n - (minS (Post.due m.1) n).val),rfl,q',?_,by rw [List.length_append]; simp; omega⟩ ?_
    ·
     rw [← ho,U.val_of (by have:=U.lt n; omega),minS_val,e1]
     simp only [List.map_cons,planS,if_neg hn,List.append_assoc,List.singleton_append]
     rfl
    ·
     show (sortI l).length - (out ++ [_]).length < (sortI l).length - out.length
     simp
     omega
   ·
    intro j hj
    cases r with
    | nil =>
     refine Wp.brnF rfl (Wp.done (fin ?_))
     rw [← ho]
     simp [planS]
    | cons m r' =>
     refine Wp.brnT rfl ?_
     refine Wp.brn (fun hz=>?_) (fun hz=>?_)
     ·
      have hz:=of_decide_eq_true (nz_u.symm.trans hz)
      exact hj _ ⟨_,_,m,r',rfl,hz,rfl⟩
     ·
      have hz:=of_decide_eq_false (nz_u.symm.trans hz)
      have hz:U.val n = 0:=by simpa using hz
      refine Wp.done (fin ?_)
      rw [← ho,hz,planS_zero,List.append_nil]
  ·
   rw [K0_eq]
   show (sortI l).length - _ < _
   omega
end Sym

/- Tables of posters: what is generated is well formed. -/
namespace Sym
open Go
theorem TableOk.lt {l:List Post} (h:TableOk l):∀ j,j < l.length→∀ i,i < j→(Post.addr (rdL dP l i)).val < (Post.addr (rdL dP l j)).val:=by
 intro j
 induction j with
 | zero=>intro _ i hi; omega
 | succ j ih =>
  intro hj i hi
  have h1:=(h.2 (j + 1) hj).2 (by omega)
  rw [Nat.add_sub_cancel] at h1
  rcases (by omega:i < j ∨ i = j) with h2 | rfl
  ·
   have:=ih (by omega) i h2
   omega
  ·
   exact h1
theorem table_iff {l:List Post}:TableOk l ↔ l.length ≤ 64∧(∀ p ∈ l,EntryOk p)∧l.Pairwise fun p q=>(Post.addr p).val < (Post.addr q).val:=by
 constructor
 ·
  intro h
  refine ⟨h.1,fun p hp=>?_,List.pairwise_iff_getElem.2 fun i j hi hj hij=>?_⟩
  ·
   obtain ⟨k,hk,rfl⟩:=mem_rdL dP hp
   exact (h.2 k hk).1
  ·
   rw [← rdL_eq dP l i hi,← rdL_eq dP l j hj]
   exact h.lt j hj i hij
 ·
  rintro ⟨h1,h2,h3⟩
  refine ⟨h1,fun i hi=>⟨h2 _ (rdL_mem dP l i hi),fun h0=>?_⟩⟩
  have:=List.pairwise_iff_getElem.1 h3 (i - 1) i (by omega) hi (by omega)
  rw [rdL_eq dP l i hi,rdL_eq dP l (i - 1) (by omega)]
  exact this
theorem set_ok {l:List Post} (h:TableOk l) {k:Nat} (hk:k < l.length) {v:Post} (hv:EntryOk v) (ha:Post.addr v = Post.addr (rdL dP l k)):TableOk (setAt l k v):=by
 have hlen:(setAt l k v).length = l.length:=by rw [setAt_eq,List.length_set]
 have haddr:∀ i,Post.addr (rdL dP (setAt l k v) i) = Post.addr (rdL dP l i):=by
  intro i
  rw [rdL_set]
  split
  ·
   rename_i e
   rw [ha,e.1]
  ·
   rfl
 refine ⟨by rw [hlen]; exact h.1,fun i hi=>?_⟩
 rw [hlen] at hi
 rw [haddr,haddr]
 refine ⟨?_,(h.2 i hi).2⟩
 rw [rdL_set]
 split
 ·
  exact hv
 ·
  exact (h.2 i hi).1
theorem settled_ok {p:Post} {n:U} (h:EntryOk p) (h1:n.val ≤ (Post.due p).val) (h2:(Post.paid p).val + n.val < U.top):EntryOk (settled p n):=by
 obtain ⟨ha,hb,hc⟩:=h
 have hd:=U.lt (Post.due p)
 refine ⟨ha,?_,?_⟩
 ·
  show (U.of ((Post.due p).val - n.val)).val + (U.of ((Post.paid p).val + n.val)).val = _
  rw [U.val_of (by omega),U.val_of h2]
  show _ = (Post.costs p).val + (Post.rewards p).val
  omega
 ·
  show (if (Post.due p).val - n.val = 0 then I.of .u64 0 else Post.since p).val = 0 ↔ (U.of ((Post.due p).val - n.val)).val = 0
  rw [U.val_of (by omega)]
  split
  ·
   rename_i e
   rw [e]
   exact ⟨fun _=>rfl,fun _=>rfl⟩
  ·
   rename_i e
   rw [hc]
   omega
theorem tab_not {l:List Post} (h:TableOk l):bnot (tabB l) = false:=by rw [tabB_t.2 h]; rfl
end Sym

/- Tables of posters: what is generated is well formed: Accrue, the calls. -/
namespace Sym
open Go
theorem accrued_ok {p:Post} (h:EntryOk p) (c w:U) (s:I .u64) (hs:s.val ≠ 0) (h1:(Post.due p).val + (c.val + w.val) < U.top) (h2:(Post.costs p).val + c.val < U.top) (h3:(Post.rewards p).val + w.val < U.top) (s':I .u64)
  (hs':(s' = s∧(Post.due p).val = 0∧0 < (Post.due p).val + (c.val + w.val)) ∨ (s' = Post.since p∧¬ ((Post.due p).val = 0∧0 < (Post.due p).val + (c.val + w.val)))) :
  EntryOk (p.1,(U.of ((Post.due p).val + (c.val + w.val)),(U.of ((Post.costs p).val + c.val),(U.of ((Post.rewards p).val + w.val),(p.2.2.2.2.1,(s',())))))):=by
 obtain ⟨ha,hb,hc⟩:=h
 refine ⟨ha,?_,?_⟩
 ·
  show (U.of _).val + (Post.paid p).val = (U.of _).val + (U.of _).val
  rw [U.val_of h1,U.val_of h2,U.val_of h3]
  omega
 ·
  show s'.val = 0 ↔ (U.of _).val = 0
  rw [U.val_of h1]
  rcases hs' with ⟨rfl,e1,e2⟩ | ⟨rfl,e⟩
  ·
   constructor
   ·
    intro e; exact absurd e hs
   ·
    intro e; omega
  ·
   rw [hc]
   omega
end Sym

/- Payments: Apply, the laws that compare with the reference. -/
namespace Sym
open Go
noncomputable def applyS:List Post→List Pay→List Post × I .i64
 | out,[]=>(out,I.of .i64 0)
 | out,q :: r=>if (settleS out q.1 q.2.1).2.val = 0 then applyS (settleS out q.1 q.2.1).1 r else ([],(settleS out q.1 q.2.1).2)
theorem settle_len {l:List Post} {a:I .u64} {n:U} (h:(settleS l a n).2.val = 0):(settleS l a n).1.length = l.length:=by
 unfold settleS at h ⊢
 split at h
 ·
  split at h
  ·
   split at h
   ·
    split at h
    ·
     rename_i h1 h2 h3 h4
     rw [if_pos h1,if_pos h2,if_pos h3,if_pos h4]
     show (setAt l _ _).length = _
     rw [setAt_eq,List.length_set]
    ·
     exact absurd h (by decide)
   ·
    exact absurd h (by decide)
  ·
   exact absurd h (by decide)
 ·
  exact absurd h (by decide)
theorem PApply_eq (l:List Post) (p:List Pay) (hl:l.length ≤ 1073741824) (hp:p.length ≤ 1073741824):payout_Apply K0 ((l,(p,())),()) = some (((applyS l p).1,((applyS l p).2,())),()):=by
 refine Wp.out (T:=fun o=>o = _) ?_
 unfold payout_Apply
 refine Wp.optF (Clone_ok l hl) ?_
 simp only [lenL_eq,i6_ofNat,of64_0,of64_1]
 refine Wp.iter (fun s=>∃ i out,s = ((out,(p,(i6 p.length,(i6 i,())))),())∧i ≤ p.length∧out.length ≤ 1073741824∧applyS out (p.drop i) = applyS l p) (fun s=>p.length - s.1.2.2.2.1.val.toNat) ?_ ⟨0,l,rfl,by omega,hl,rfl⟩ ?_
 ·
  rintro s ⟨i,out,rfl,hi,ho,he⟩
  simp only [i6_ltb (show i < 9223372036854775808 by omega) (show p.length < 9223372036854775808 by omega),i6_nat (show i < 9223372036854775808 by omega),i6_add (show i + 1 < 9223372036854775808 by omega)]
  refine Wp.brn (fun hc=>?_) (fun hc=>?_)
  ·
   have hc:=of_decide_eq_true hc
   refine Wp.brnT (i6_inB (by omega) (by omega)) ?_
   rw [List.drop_eq_getElem_cons hc,← rdL_eq dY p i hc] at he
   simp only [applyS] at he
   refine Wp.optF (PSettle_eq out _ _ ho) ?_
   refine Wp.brn (fun h=>?_) (fun h=>?_)
   ·
    have h:=iff_neb.1 h
    have h:¬ (settleS out (rdL dY p i).1 (rdL dY p i).2.1).2.val = 0:=h
    rw [if_neg h] at he
    rw [← he]
    exact Wp.done rfl
   ·
    have h:=niff_neb.1 h
    have h:(settleS out (rdL dY p i).1 (rdL dY p i).2.1).2.val = 0:=h
    rw [if_pos h] at he
    exact Wp.again ⟨i + 1,_,rfl,by omega,by rw [settle_len h]; exact ho,he⟩ (by show p.length - (i6 (i + 1)).val.toNat < p.length - (i6 i).val.toNat; rw [a1J (by omega),a1J (by omega)]; omega)
  ·
   have hc:=of_decide_eq_false hc
   rw [List.drop_eq_nil_iff.2 (by omega)] at he
   refine Wp.done ?_
   rw [← he]
   rfl
 ·
  rw [K0_eq]
  show p.length - _ < _
  omega
end Sym

/- Payments: the law of sums and of Apply. -/
namespace Sym
open Go
end Sym

/- Payments: what a plan pays, and what the table is behind it. -/
namespace Sym
open Go
theorem sumN_perm {l m:List Nat} (h:l.Perm m):sumN l = sumN m:=by
 induction h with
 | nil=>rfl
 | cons x _ ih=>simp only [sumN,List.foldr_cons] at *; omega
 | swap x y l=>simp only [sumN,List.foldr_cons]; omega
 | trans _ _ ih1 ih2=>exact ih1.trans ih2
theorem ow_iff {p:Post}:ow p = true ↔ dueN p ≠ 0:=by
 unfold ow
 rw [nz_u]
 simp [dueN]
theorem sum_filter (l:List Post):sumN ((l.filter ow).map dueN) = sumN (l.map dueN):=by
 induction l with
 | nil=>rfl
 | cons p l ih =>
  rw [List.filter_cons]
  split
  ·
   simp only [sumN,List.map_cons,List.foldr_cons] at *; omega
  ·
   rename_i h
   have:dueN p = 0:=by
    have:=mt ow_iff.2 h
    omega
   simp only [sumN,List.map_cons,List.foldr_cons] at *; omega
noncomputable abbrev ord (x:List Post):List Post:=(sortI x).map (·.1)
theorem ord_sum (x:List Post):sumN ((ord x).map dueN) = sumN (x.map dueN):=by
 rw [← sum_filter x]
 exact sumN_perm ((sortI_filter x).map dueN)
theorem ord_mem {x:List Post} {p:Post} (h:p ∈ ord x):p ∈ x∧ow p = true:=List.mem_filter.1 ((sortI_filter x).mem_iff.1 h)
theorem ord_apart {x:List Post} (hx:TableOk x):(ord x).Pairwise fun p q=>Post.addr p ≠ Post.addr q:=by
 have h:=(table_iff.1 hx).2.2
 have h2:(x.filter ow).Pairwise fun p q=>Post.addr p ≠ Post.addr q:=(h.filter ow).imp fun {p q} hlt e=>by rw [e] at hlt; omega
 exact (List.Perm.pairwise_iff (fun {p q} h e=>h e.symm) (sortI_filter x)).2 h2
theorem plan_sum:∀ (o:List Post) (n:Nat),n < U.top→sumN ((planS o n).map amt) = min n (sumN (o.map dueN))
 | [],n,_=>by simp [planS,sumN]
 | p :: r,n,hn=>by
  simp only [planS]
  split
  ·
   rename_i h
   subst h
   simp [sumN]
  ·
   have ih:=plan_sum r (n - min (dueN p) n) (by omega)
   have hv:(U.of (min (dueN p) n)).val = min (dueN p) n:=U.val_of (by omega)
   have:amt (p.addr,(U.of (min (dueN p) n),())) = min (dueN p) n:=hv
   simp only [sumN,List.map_cons,List.foldr_cons,this] at *
   omega
theorem sum_set:∀ (l:List Post) (k:Nat) (v:Post),k < l.length→sumN ((setAt l k v).map dueN) + dueN (rdL dP l k) = sumN (l.map dueN) + dueN v
 | [],k,v,h=>by simp at h
 | p :: l,0,v,_=>by simp only [setAt,rdL,sumN,List.map_cons,List.foldr_cons]; omega
 | p :: l,k + 1,v,h=>by
  have:=sum_set l k v (by simpa using h)
  simp only [setAt,rdL,sumN,List.map_cons,List.foldr_cons] at *
  omega
theorem table_at {out:List Post} (h:TableOk out) {p:Post} (hp:p ∈ out):atN out p.addr < out.length∧rdL dP out (atN out p.addr) = p:=by
 obtain ⟨k,hk,rfl⟩:=mem_rdL dP hp
 have e:atN out (Post.addr (rdL dP out k)) = k:=atN_of hk (iff_eqb.2 rfl) (fun j hj=>niff_eqb.2 (by have:=h.lt k hk j hj; omega))
 rw [e]
 exact ⟨hk,rfl⟩
theorem table_inj {out:List Post} (h:TableOk out) {i j:Nat} (hi:i < out.length) (hj:j < out.length) (e:Post.addr (rdL dP out i) = Post.addr (rdL dP out j)):i = j:=by
 rcases Nat.lt_trichotomy i j with h1 | h1 | h1
 ·
  have:=h.lt j hj i h1; rw [e] at this; omega
 ·
  exact h1
 ·
  have:=h.lt i hi j h1; rw [e] at this; omega
theorem apply_plan:∀ (o:List Post) (n:Nat) (out:List Post),n < U.top→TableOk out→(∀ p ∈ o,p ∈ out∧ow p = true)→(o.Pairwise fun p q=>Post.addr p ≠ Post.addr q) →
  (applyS out (planS o n)).2 = I.of .i64 4 ∨ ((applyS out (planS o n)).2 = I.of .i64 0∧TableOk (applyS out (planS o n)).1∧(applyS out (planS o n)).1.length = out.length ∧
   (∀ i,Post.addr (rdL dP (applyS out (planS o n)).1 i) = Post.addr (rdL dP out i)) ∧
   sumN ((applyS out (planS o n)).1.map dueN) + sumN ((planS o n).map amt) = sumN (out.map dueN) ∧
   (∀ i,(∀ p ∈ o,Post.addr p ≠ Post.addr (rdL dP out i))→rdL dP (applyS out (planS o n)).1 i = rdL dP out i) ∧
   (∀ t,t + 1 < (planS o n).length→∀ i,i < out.length→Post.addr (rdL dP out i) = Post.addr (rdL dP o t)→dueN (rdL dP (applyS out (planS o n)).1 i) = 0))
 | [],n,out,_,ht,_,_=>.inr ⟨rfl,ht,rfl,fun _=>rfl,by simp [planS,applyS,sumN],fun _ _=>rfl,fun t h=>by simp [planS] at h⟩
 | p :: r,n,out,hn,ht,hin,hap=>by
  by_cases h0:n = 0
  ·
   subst h0
   rw [planS_zero]
   exact .inr ⟨rfl,ht,rfl,fun _=>rfl,by simp [applyS,sumN],fun _ _=>rfl,fun t h=>by simp at h⟩
  ·
   have hpl:planS (p :: r) n = (p.addr,(U.of (min (dueN p) n),())) :: planS r (n - min (dueN p) n):=if_neg h0
   rw [hpl]
   simp only [applyS]
   have ⟨hk,hkp⟩:=table_at ht (hin p (by simp)).1
   obtain ⟨m,hm⟩:∃ m,m = min (dueN p) n:=⟨_,rfl⟩
   rw [← hm]
   have hmv:(U.of m).val = m:=U.val_of (by omega)
   have hmd:m ≤ dueN p:=by omega
   have hst:settleS out p.addr (U.of m) = if (Post.paid p).val + m < U.top then (setAt out (atN out p.addr) (settled p (U.of m)),I.of .i64 0) else ([],I.of .i64 4):=by
    unfold settleS
    rw [if_pos (tabB_t.2 ht),if_pos hk,hkp,hmv,if_pos (show m ≤ (Post.due p).val from hmd)]
   rw [hst]
   by_cases hpd:(Post.paid p).val + m < U.top
   ·
    rw [if_pos hpd]
    simp only [show (I.of .i64 0).val = 0 from rfl,if_true]
    obtain ⟨k,hkk⟩:∃ k,k = atN out p.addr:=⟨_,rfl⟩
    rw [← hkk] at hk hkp ⊢
    have hT:TableOk (setAt out k (settled p (U.of m))):=set_ok ht hk (settled_ok ((table_iff.1 ht).2.1 p (hin p (by simp)).1) (by rw [hmv]; exact hmd) (by rw [hmv]; exact hpd)) (by rw [hkp]; rfl)
    have ⟨hap1,hap2⟩:=List.pairwise_cons.1 hap
    have hlen:(setAt out k (settled p (U.of m))).length = out.length:=by rw [setAt_eq,List.length_set]
    have haddr:∀ i,Post.addr (rdL dP (setAt out k (settled p (U.of m))) i) = Post.addr (rdL dP out i):=by
     intro i
     rw [rdL_set]
     split
     ·
      rename_i e
      rw [e.1,hkp]
      rfl
     ·
      rfl
    have hin':∀ q ∈ r,q ∈ setAt out k (settled p (U.of m))∧ow q = true:=by
     intro q hq
     have ⟨h1,h2⟩:=hin q (List.mem_cons_of_mem _ hq)
     refine ⟨?_,h2⟩
     obtain ⟨i,hi,e⟩:=mem_rdL dP h1
     have hik:i ≠ k:=by
      rintro rfl
      rw [hkp] at e
      exact hap1 q hq (by rw [e])
     have:rdL dP (setAt out k (settled p (U.of m))) i = q:=by rw [rdL_set,if_neg (by omega),e]
     rw [← this]
     exact rdL_mem dP _ i (by rw [hlen]; exact hi)
    have hsum:=sum_set out k (settled p (U.of m)) hk
    rw [hkp] at hsum
    have hdn:dueN (settled p (U.of m)) = dueN p - m:=by
     show (U.of ((Post.due p).val - (U.of m).val)).val = _
     rw [hmv,U.val_of (by have:=U.lt (Post.due p); omega)]
     rfl
    have ham:amt (p.addr,(U.of m,())) = m:=hmv
    rcases apply_plan r (n - m) (setAt out k (settled p (U.of m))) (by omega) hT hin' hap2 with h | ⟨g1,g2,g3,g4,g5,g6,g7⟩
    ·
     exact .inl h
    ·
     refine .inr ⟨g1,g2,g3.trans hlen,fun i=>(g4 i).trans (haddr i),?_,fun i hi=>?_,fun t htl i hi he=>?_⟩
     ·
      simp only [List.map_cons,ham]
      have:sumN (m :: (planS r (n - m)).map amt) = m + sumN ((planS r (n - m)).map amt):=rfl
      rw [this]
      omega
     ·
      rw [g6 i (fun q hq=>by rw [haddr]; exact hi q (List.mem_cons_of_mem _ hq)),rdL_set,if_neg]
      rintro ⟨rfl,_⟩
      exact hi p (by simp) (by rw [hkp])
     ·
      cases t with
      | zero =>
       have hr:0 < (planS r (n - m)).length:=by simpa using htl
       have hmn:m ≠ n:=by
        rintro rfl
        rw [Nat.sub_self,planS_zero] at hr
        simp at hr
       have hmd:m = dueN p:=by omega
       have hik:i = k:=table_inj ht hi hk (by rw [he,hkp]; rfl)
       subst hik
       have hpr:∀ q ∈ r,Post.addr q ≠ Post.addr (rdL dP (setAt out i (settled p (U.of m))) i):=fun q hq=>by
        rw [haddr,hkp]
        exact fun e=>hap1 q hq e.symm
       rw [g6 i hpr,rdL_set,if_pos ⟨rfl,hk⟩,hdn]
       omega
      | succ t =>
       exact g7 t (by simpa using htl) i (by rw [hlen]; exact hi) (by rw [haddr]; exact he)
   ·
    rw [if_neg hpd]
    exact .inl rfl
end Sym

/- Payments: a greater pool pays nobody less. -/
namespace Sym
open Go
theorem planR_ok {x:List Post} (hx:TableOk x) (n:U):planR x n = (planS (ord x) n.val,I.of .i64 0):=if_pos (tabB_t.2 hx)
theorem ord_len (x:List Post):(ord x).length ≤ x.length:=by rw [List.length_map]; exact sortI_len x
end Sym

/- Payments: the oldest debts first. -/
namespace Sym
open Go
end Sym

/- Payments: the payments total the smaller of the pool and the debts. -/
namespace Sym
open Go
end Sym

/- The length of a number in bits. -/
namespace Sym
open Go
theorem shr_natL {l:IntKind} (x:I .u64) (s:I l) (h0:0 ≤ s.val) (hs:s.val < 64):(I.shr x s).nat = x.nat / 2 ^ s.val.toNat:=by
 have hx:=u64_range x
 have hm:min s.val.toNat IntKind.u64.bits = s.val.toNat:=by
  have:IntKind.u64.bits = 64:=rfl
  omega
 unfold I.shr
 rw [hm,fdiv_pos _ _ hx.1]
 have h1:((x.nat / 2 ^ s.val.toNat:Nat):Int) = x.val / (2:Int) ^ s.val.toNat:=by
  rw [Int.natCast_ediv,nat_val]
  simp
 rw [← h1]
 have:=Nat.div_le_self x.nat (2 ^ s.val.toNat)
 have:=a2B x
 exact of_nat (by omega)
def Bits (n k:Nat):Prop:=∀ m,k ≤ m ↔ n < 2 ^ m
theorem Bits.zero:Bits 0 0:=fun m=>⟨fun _=>Nat.pow_pos (by decide),fun _=>Nat.zero_le _⟩
theorem Bits.up {n k s:Nat} (h:Bits (n / 2 ^ s) k) (h1:s = 0 ∨ 0 < n / 2 ^ s):Bits n (k + s):=by
 intro m
 rcases h1 with rfl | h1
 ·
  have:=h m
  simpa using this
 ·
  have hk:1 ≤ k:=by
   rcases Nat.eq_zero_or_pos k with h2 | h2
   ·
    subst h2; have:=(h 0).1 (Nat.le_refl _); rw [Nat.pow_zero] at this; omega
   ·
    exact h2
  by_cases hm:s ≤ m
  ·
   have e:=h (m - s)
   have e2:n / 2 ^ s < 2 ^ (m - s) ↔ n < 2 ^ m:=by
    rw [Nat.div_lt_iff_lt_mul (Nat.pow_pos (by decide)),← Nat.pow_add]
    rw [show m - s + s = m by omega]
   rw [← e2,← e]
   omega
  ·
   have:¬ n < 2 ^ m:=by
    intro hn
    have h3:2 ^ m ≤ 2 ^ s:=Nat.pow_le_pow_right (by decide) (by omega)
    have:n / 2 ^ s = 0:=Nat.div_eq_of_lt (Nat.lt_of_lt_of_le hn h3)
    omega
   constructor
   ·
    omega
   ·
    intro h; exact absurd h this
def tab8:List Nat:=[0,1,2,2,3,3,3,3,4,4,4,4,4,4,4,4,5,5,5,5,5,5,5,5,5,5,5,5,5,5,5,5,6,6,6,6,6,6,6,6,6,6,6,6,6,6,6,6,6,6,6,6,6,6,6,6,6,6,6,6,6,6,6,6,7,7,7,7,7,7,7,7,7,7,7,7,7,7,7,7,7,7,7,7,7,7,7,7,7,7,7,7,7,7,7,7,7,7,7,7,7,7,7,7,7,7,7,7,7,7,7,7,7,7,7,7,7,7,7,7,7,7,7,7,7,7,7,7,8,8,8,8,8,8,8,8,8,8,8,8,8,8,8,8,8,8,8,8,8,8,8,8,8,8,8,8,8,8,8,8,8,8,8,8,8,8,8,8,8,8,8,8,8,8,8,8,8,8,8,8,8,8,8,8,8,8,8,8,8,8,8,8,8,8,8,8,8,8,8,8,8,8,8,8,8,8,8,8,8,8,8,8,8,8,8,8,8,8,8,8,8,8,8,8,8,8,8,8,8,8,8,8,8,8,8,8,8,8,8,8,8,8,8,8,8,8,8,8,8,8,8,8,8,8,8,8]
theorem tab8_eq:KS_0001020203030303_256_633d86 = bytesL tab8:=by kernel_rfl
theorem tab8_ok:∀ i,i < 256→rdL 0 tab8 i ≤ 8∧∀ m,m ≤ 8→(rdL 0 tab8 i ≤ m ↔ i < 2 ^ m):=by decide +kernel
theorem tab8_bits {i:Nat} (h:i < 256):Bits i (rdL 0 tab8 i):=by
 intro m
 have ⟨h1,h2⟩:=tab8_ok i h
 by_cases hm:m ≤ 8
 ·
  exact h2 m hm
 ·
  have:2 ^ 8 ≤ 2 ^ m:=Nat.pow_le_pow_right (by decide) (by omega)
  omega
theorem rdL_bytes:∀ (l:List Nat) (i:Nat),rdL (I.of .u8 0) (bytesL l) i = I.of .u8 ((rdL 0 l i:Nat):Int)
 | [],_=>rfl
 | _ :: _,0=>rfl
 | _ :: l,i + 1=>rdL_bytes l i
theorem nat_conv8 (x:I .u64) (h:x.nat < 256):I.nat (I.conv .u8 x) = x.nat∧(I.conv .u8 x).val = x.nat:=by
 have hx:=nat_val x
 have:(I.conv .u8 x).val = x.val:=of_u8 (by omega)
 unfold I.nat at *
 rw [this]
 omega
theorem tab_val {x:I .u64} (h:x.nat < 256):(I.conv (k:=.u8) .i64 (rdL (I.of .u8 0) KS_0001020203030303_256_633d86 (I.nat (I.conv .u8 x)))) = i6 (rdL 0 tab8 x.nat)∧inB (I.conv .u8 x) 256 = true:=by
 have ⟨h1,h2⟩:=nat_conv8 x h
 have ⟨h3,_⟩:=tab8_ok x.nat h
 constructor
 ·
  rw [h1,tab8_eq,rdL_bytes]
  apply I.ext'
  rw [a1J (by omega)]
  show (I.of .i64 (I.of .u8 ((rdL 0 tab8 x.nat:Nat):Int)).val).val = _
  rw [of_u8 (by omega),of_i64 (by omega)]
 ·
  exact iff_inB.2 (by rw [h2]; omega)
theorem leb_nat (n:Nat) (x:I .u64) (h:n < 18446744073709551616):I.leb (I.of .u64 (n:Int)) x = decide (n ≤ x.nat):=by
 have:=nat_val x
 have h2:(I.of .u64 (n:Int)).val = n:=of_u64 ⟨by omega,by omega⟩
 by_cases hc:n ≤ x.nat
 ·
  rw [decide_eq_true hc]; exact iff_leb.2 (by omega)
 ·
  rw [decide_eq_false hc]; exact niff_leb.2 (by omega)
theorem Len64_ok (a:I .u64):∃ y,math_bits_Len64 K0 ((a,()),()) = some y∧∃ k,y = ((i6 k,()),())∧Bits a.nat k∧k ≤ 64:=by
 have hb:∀ k,Bits a.nat k→k ≤ 64:=fun k h=>(h 64).2 (by have:=a2B a; omega)
 refine Wp.out (T:=fun o=>∃ y,o = some y∧∃ k,y = ((i6 k,()),())∧Bits a.nat k∧k ≤ 64) ?_
 unfold math_bits_Len64
 refine Wp.jn (fun s=>∃ x n,s = ((x,(i6 n,())),())∧x.nat = a.nat / 2 ^ n∧(n = 0 ∨ 0 < x.nat)∧n ≤ 32∧x.nat < 4294967296) ?_ ?_
 ·
  rintro s ⟨x,n,rfl,hx,h0,hn,hl⟩
  refine Wp.jn (fun s=>∃ y m,s = ((y,(i6 m,())),())∧y.nat = a.nat / 2 ^ m∧(m = 0 ∨ 0 < y.nat)∧m ≤ 48∧y.nat < 65536) ?_ ?_
  ·
   rintro s ⟨y,m,rfl,hy,h1,hm,hl2⟩
   have e2:I.of .u64 256 = I.of .u64 ((256:Nat):Int):=rfl
   simp only [e2,leb_nat 256 y (by decide)]
   refine Wp.brn (fun hc=>?_) (fun hc=>?_)
   ·
    have hc:=of_decide_eq_true hc
    have hs:(I.shr y (I.of .u64 8)).nat = y.nat / 256:=shr_natL y (I.of .u64 8) (by decide) (by decide)
    have hlt:(I.shr y (I.of .u64 8)).nat < 256:=by omega
    have ⟨t1,t2⟩:=tab_val hlt
    have ⟨t3,_⟩:=tab8_ok _ hlt
    refine Wp.brnT t2 ?_
    simp only [t1]
    have e8:I.of .i64 8 = i6 8:=rfl
    rw [e8,i6_add (by omega),i6_add (by omega)]
    have hB:Bits a.nat (rdL 0 tab8 (I.shr y (I.of .u64 8)).nat + (m + 8)):=by
     refine Bits.up ?_ (.inr ?_)
     ·
      rw [Nat.pow_add,← Nat.div_div_eq_div_mul,← hy]
      rw [show y.nat / 2 ^ 8 = (I.shr y (I.of .u64 8)).nat from hs.symm]
      exact tab8_bits hlt
     ·
      rw [Nat.pow_add,← Nat.div_div_eq_div_mul,← hy]
      omega
    refine ⟨_,rfl,_,rfl,?_,hb _ ?_⟩
    ·
     rw [Nat.add_comm]; exact hB
    ·
     rw [Nat.add_comm]; exact hB
   ·
    have hc:=of_decide_eq_false hc
    have hlt:y.nat < 256:=by omega
    have ⟨t1,t2⟩:=tab_val hlt
    have ⟨t3,_⟩:=tab8_ok _ hlt
    refine Wp.brnT t2 ?_
    simp only [t1]
    rw [i6_add (by omega)]
    have hB:Bits a.nat (rdL 0 tab8 y.nat + m):=by
     refine Bits.up (by rw [← hy]; exact tab8_bits hlt) (by rw [← hy]; exact h1)
    refine ⟨_,rfl,_,rfl,?_,hb _ ?_⟩
    ·
     rw [Nat.add_comm]; exact hB
    ·
     rw [Nat.add_comm]; exact hB
  ·
   intro j hj
   have e2:I.of .u64 65536 = I.of .u64 ((65536:Nat):Int):=rfl
   simp only [e2,leb_nat 65536 x (by decide)]
   refine Wp.brn (fun hc=>hj _ ?_) (fun hc=>hj _ ?_)
   ·
    have hc:=of_decide_eq_true hc
    have hs:(I.shr x (I.of .u64 16)).nat = x.nat / 65536:=shr_natL x (I.of .u64 16) (by decide) (by decide)
    refine ⟨_,n + 16,by rw [show I.of .i64 16 = i6 16 from rfl,i6_add (by omega)],?_,.inr (by rw [hs]; omega),by omega,by rw [hs]; omega⟩
    rw [hs,Nat.pow_add,← Nat.div_div_eq_div_mul,← hx]
   ·
    have hc:=of_decide_eq_false hc
    exact ⟨x,n,rfl,hx,h0,by omega,by omega⟩
 ·
  intro j hj
  have e2:I.of .u64 4294967296 = I.of .u64 ((4294967296:Nat):Int):=rfl
  have ha:=a2B a
  simp only [e2,leb_nat 4294967296 a (by decide)]
  refine Wp.brn (fun hc=>hj _ ?_) (fun hc=>hj _ ?_)
  ·
   have hc:=of_decide_eq_true hc
   have hs:(I.shr a (I.of .u64 32)).nat = a.nat / 4294967296:=shr_natL a (I.of .u64 32) (by decide) (by decide)
   exact ⟨_,32,rfl,hs,.inr (by rw [hs]; omega),by omega,by rw [hs]; omega⟩
  ·
   have hc:=of_decide_eq_false hc
   exact ⟨a,0,rfl,by simp,.inl rfl,by omega,by omega⟩
end Sym

/- Pricer: the length of a number, who is found, shares of units. -/
namespace Sym
open Go
theorem Wp.jnI {X R:Type} {T:R→Prop} {J:X→R} {f:(X→R)→R} (h:Wp T (f J)):Wp T (Sym.jn J f):=h
theorem u64_nz {x:I .u64}:I.neb x (I.of .u64 0) = decide (x.nat ≠ 0):=by
 have hx:=nat_val x
 have h0:(I.of .u64 0).val = 0:=rfl
 by_cases h:x.nat = 0
 ·
  rw [decide_eq_false (by simpa using h)]; exact niff_neb.2 (by omega)
 ·
  rw [decide_eq_true h]; exact iff_neb.2 (by omega)
theorem BitLen_ok (a:U):∃ y,uint256_BitLen K0 ((a,()),()) = some y∧∃ k,y = ((i6 k,()),())∧Bits a.val k∧k ≤ 256:=by
 obtain ⟨k0,hk0⟩:=K0_fiveP
 obtain ⟨z0,z1,z2,z3,⟨⟩⟩:=a
 have hb:∀ k,Bits (U.val (z0,z1,z2,z3,())) k→k ≤ 256:=fun k h=>(h 256).2 (U.lt _)
 have l0:=a2B z0
 have l1:=a2B z1
 have l2:=a2B z2
 have l3:=a2B z3
 refine Wp.out (T:=fun o=>∃ y,o = some y∧∃ k,y = ((i6 k,()),())∧Bits (U.val (z0,z1,z2,z3,())) k∧k ≤ 256) ?_
 unfold uint256_BitLen
 have e3:I.of .i64 3 = i6 3:=rfl
 have fin:∀ (j:Nat) (z:I .u64),j ≤ 3→0 < z.nat→U.val (z0,z1,z2,z3,()) / 2 ^ (64 * j) = z.nat →
   ∃ y,math_bits_Len64 K0 ((z,()),()) = some y∧∃ k,(some ((I.add (I.mul (I.of .i64 64) (i6 j)) y.1.1,()),()):Option (((I .i64) × Unit) × Unit)) = some ((i6 k,()),())∧Bits (U.val (z0,z1,z2,z3,())) k:=by
  intro j z hj hz he
  obtain ⟨y,hy,k,rfl,hB,hk⟩:=Len64_ok z
  refine ⟨_,hy,k + 64 * j,?_,Bits.up (by rw [he]; exact hB) (.inr (by rw [he]; exact hz))⟩
  have hm:I.mul (I.of .i64 64) (i6 j) = i6 (64 * j):=by
   apply I.ext'
   rw [mul_i64 (by rw [a1J (by omega)]; show _ ≤ (64:Int) * j∧(64:Int) * j < _; omega),a1J (by omega),a1J (by omega)]
   show (64:Int) * j = _
   omega
  show some ((I.add _ (i6 k),()),()) = _
  rw [hm,i6_add (by omega),Nat.add_comm]
 simp only [hk0,e3,u64_nz]
 refine Wp.unroll (Wp.brnT rfl (Wp.brnT rfl (Wp.brn (fun h=>Wp.brnT rfl ?_) (fun h=>Wp.next ?_))))
 ·
  have h:z3.nat ≠ 0:=of_decide_eq_true h
  obtain ⟨y,hy,k,e,hB⟩:=fin 3 z3 (by omega) (by omega) (by show (z0.nat + 18446744073709551616 * (z1.nat + 18446744073709551616 * (z2.nat + 18446744073709551616 * z3.nat))) / 2 ^ 192 = _; omega)
  exact Wp.optF hy (Wp.stop ⟨_,e,k,rfl,hB,hb k hB⟩)
 have h:¬ z3.nat ≠ 0:=of_decide_eq_false h
 refine Wp.unroll (Wp.brnT rfl (Wp.brnT rfl (Wp.brn (fun h=>Wp.brnT rfl ?_) (fun h=>Wp.next ?_))))
 ·
  have h:z2.nat ≠ 0:=of_decide_eq_true h
  obtain ⟨y,hy,k,e,hB⟩:=fin 2 z2 (by omega) (by omega) (by show (z0.nat + 18446744073709551616 * (z1.nat + 18446744073709551616 * (z2.nat + 18446744073709551616 * z3.nat))) / 2 ^ 128 = _; omega)
  exact Wp.optF hy (Wp.stop ⟨_,e,k,rfl,hB,hb k hB⟩)
 have h:¬ z2.nat ≠ 0:=of_decide_eq_false h
 refine Wp.unroll (Wp.brnT rfl (Wp.brnT rfl (Wp.brn (fun h=>Wp.brnT rfl ?_) (fun h=>Wp.next ?_))))
 ·
  have h:z1.nat ≠ 0:=of_decide_eq_true h
  obtain ⟨y,hy,k,e,hB⟩:=fin 1 z1 (by omega) (by omega) (by show (z0.nat + 18446744073709551616 * (z1.nat + 18446744073709551616 * (z2.nat + 18446744073709551616 * z3.nat))) / 2 ^ 64 = _; omega)
  exact Wp.optF hy (Wp.stop ⟨_,e,k,rfl,hB,hb k hB⟩)
 have h:¬ z1.nat ≠ 0:=of_decide_eq_false h
 refine Wp.unroll (Wp.brnT rfl (Wp.brnT rfl (Wp.brn (fun h=>Wp.brnT rfl ?_) (fun h=>Wp.next ?_))))
 ·
  have h:z0.nat ≠ 0:=of_decide_eq_true h
  obtain ⟨y,hy,k,e,hB⟩:=fin 0 z0 (by omega) (by omega) (by show (z0.nat + 18446744073709551616 * (z1.nat + 18446744073709551616 * (z2.nat + 18446744073709551616 * z3.nat))) / 2 ^ 0 = _; omega)
  exact Wp.optF hy (Wp.stop ⟨_,e,k,rfl,hB,hb k hB⟩)
 have h:¬ z0.nat ≠ 0:=of_decide_eq_false h
 refine Wp.unroll (Wp.brnF rfl (Wp.stop ?_))
 refine ⟨_,rfl,0,rfl,?_,by omega⟩
 have:U.val (z0,z1,z2,z3,()) = 0:=by show z0.nat + 18446744073709551616 * (z1.nat + 18446744073709551616 * (z2.nat + 18446744073709551616 * z3.nat)) = 0; omega
 rw [this]
 exact Bits.zero
def allocN (units last upto now:I .u64):Nat:=if now.nat = last.nat then units.nat else units.nat * (upto.nat - last.nat) / (now.nat - last.nat)
theorem U_fst0 {n:Nat} (h:n < 18446744073709551616):(U.of n).1 = I.of .u64 (n:Int):=by
 show I.of .u64 ((n % 18446744073709551616:Nat):Int) = _
 rw [Nat.mod_eq_of_lt h]
theorem eqb_nat {x y:I .u64}:I.eqb x y = decide (x.nat = y.nat):=by
 have:=nat_val x
 have:=nat_val y
 by_cases h:x.nat = y.nat
 ·
  rw [decide_eq_true h]; exact iff_eqb.2 (by omega)
 ·
  rw [decide_eq_false h]; exact niff_eqb.2 (by omega)
theorem sub_nat_le' (a b:I .u64) (h:b.nat ≤ a.nat):(I.sub a b).nat = a.nat - b.nat:=by
 have:=nat_val a
 have:=nat_val b
 have:=sub_u64 (a:=a) (b:=b) (by omega)
 have:=nat_val (I.sub a b)
 omega
theorem allocN_le {units last upto now:I .u64} (h1:last.nat ≤ upto.nat) (h2:upto.nat ≤ now.nat):allocN units last upto now ≤ units.nat:=by
 unfold allocN
 split
 ·
  omega
 ·
  refine Nat.div_le_of_le_mul ?_
  rw [Nat.mul_comm]
  exact Nat.mul_le_mul_right _ (by omega)
theorem Alloc_eq (units last upto now:I .u64) (h1:last.nat ≤ upto.nat) (h2:upto.nat ≤ now.nat) :
  alloc_Allocate K0 ((units,(last,(upto,(now,())))),()) = some ((I.of .u64 (allocN units last upto now:Int),(I.of .i64 0,())),()):=by
 have hle:=allocN_le (units:=units) h1 h2
 have hu:=a2B units
 refine Wp.out (T:=fun o=>o = _) ?_
 unfold alloc_Allocate
 refine Wp.jnI (Wp.jnI ?_)
 simp only [ltb_nat]
 refine Wp.brnF (decide_eq_false (by omega)) ?_
 refine Wp.brnF (decide_eq_false (by omega)) ?_
 simp only [eqb_nat]
 refine Wp.brn (fun h=>?_) (fun h=>?_)
 ·
  have h:=of_decide_eq_true h
  have:I.of .u64 (allocN units last upto now:Int) = units:=by
   unfold allocN
   rw [if_pos h,nat_val]
   exact I.ext' units.ok
  rw [this]
  rfl
 ·
  have h:=of_decide_eq_false h
  have d1:=sub_nat_le' upto last h1
  have d2:=sub_nat_le' now last (by omega)
  refine Wp.optF (a1Y _) (Wp.optF (a1Y _) (Wp.optF (a1Y _) ?_))
  refine Wp.optF (MulDiv_ok _ _ _ (by rw [u64U_val,d2]; omega) (by rw [u64U_val,u64U_val,d1,d2]; omega)) ?_
  simp only [u64U_val,d1,d2]
  have e:allocN units last upto now = units.nat * (upto.nat - last.nat) / (now.nat - last.nat):=if_neg h
  rw [e] at hle ⊢
  rw [U_fst0 (by omega)]
  rfl
end Sym

/- Pricer: what its functions compute. -/
namespace Sym
open Go
abbrev PrT:Type:=S_api_Pricer
abbrev PrT.price (s:PrT):U:=s.1
abbrev PrT.units (s:PrT):I .u64:=s.2.1
abbrev PrT.last (s:PrT):I .u64:=s.2.2.1
abbrev PrT.reports (s:PrT):I .u64:=s.2.2.2.1
abbrev PrT.surplus (s:PrT):S:=s.2.2.2.2.1
abbrev PrT.posters (s:PrT):List Post:=s.2.2.2.2.2.1
abbrev RepT:Type:=S_api_Report
abbrev OutT:Type:=S_pricer_Outcome
def Prm.rpu (p:Prm):U:=p.2.2.2.2.2.2.2.1
noncomputable def sinceB (l:List Post) (n:I .u64):Bool:=l.all fun p=>decide ((Post.since p).nat ≤ n.nat)
noncomputable def prV (s:PrT):Bool:=sinceB s.posters s.reports && (tabB s.posters && validB s.surplus)
theorem prV_t {s:PrT}:prV s = true ↔ (∀ p ∈ s.posters,(Post.since p).nat ≤ s.reports.nat)∧TableOk s.posters∧validB s.surplus = true:=by
 unfold prV sinceB
 simp only [Bool.and_eq_true,List.all_eq_true,decide_eq_true_eq,tabB_t]
theorem PrValid_eq (s:PrT) (hl:s.posters.length ≤ 1073741824):pricer_Valid K0 ((s,()),()) = some ((prV s,()),()):=by
 refine Wp.out (T:=fun o=>o = _) ?_
 unfold pricer_Valid
 simp only [lenL_eq,i6_ofNat,of64_0,of64_1]
 obtain ⟨l,hl'⟩:∃ l,l = s.posters:=⟨_,rfl⟩
 rw [← hl'] at hl
 have e:s.2.2.2.2.2.1 = l:=hl'.symm
 simp only [e]
 refine Wp.iter (fun t=>∃ i,t = ((l,(i6 l.length,(i6 i,()))),(s,()))∧i ≤ l.length∧∀ k,k < i→(Post.since (rdL dP l k)).nat ≤ s.reports.nat) (fun t=>l.length - t.1.2.2.1.val.toNat) ?_ ⟨0,rfl,by omega,by intro k hk; omega⟩ ?_
 ·
  rintro t ⟨i,rfl,hi,hinv⟩
  simp only [i6_ltb (show i < 9223372036854775808 by omega) (show l.length < 9223372036854775808 by omega),i6_nat (show i < 9223372036854775808 by omega),i6_add (show i + 1 < 9223372036854775808 by omega)]
  refine Wp.brn (fun hc=>?_) (fun hc=>?_)
  ·
   have hc:=of_decide_eq_true hc
   refine Wp.brnT (i6_inB (by omega) (by omega)) ?_
   simp only [ltb_nat]
   refine Wp.brn (fun h=>?_) (fun h=>?_)
   ·
    have h:s.reports.nat < (Post.since (rdL dP l i)).nat:=of_decide_eq_true h
    refine Wp.done ?_
    have:prV s = false:=by
     cases hv:prV s with
     | false=>rfl
     | true =>
      have:=(prV_t.1 hv).1 (rdL dP l i) (by rw [← hl']; exact rdL_mem dP _ i hc)
      omega
    rw [this]
    rfl
   ·
    have h:¬ s.reports.nat < (Post.since (rdL dP l i)).nat:=of_decide_eq_false h
    refine Wp.again ⟨i + 1,rfl,by omega,fun k hk=>?_⟩ (by show l.length - (i6 (i + 1)).val.toNat < l.length - (i6 i).val.toNat; rw [a1J (by omega),a1J (by omega)]; omega)
    by_cases hki:k = i
    ·
     subst hki; omega
    ·
     exact hinv k (by omega)
  ·
   have hc:=of_decide_eq_false hc
   have hs:sinceB s.posters s.reports = true:=by
    unfold sinceB
    rw [← hl',List.all_eq_true]
    intro p hp
    obtain ⟨k,hk,rfl⟩:=mem_rdL dP hp
    exact decide_eq_true (hinv k (by omega))
   refine Wp.done (Wp.optF (PValid_eq (l:=s.posters) (by rw [← hl']; exact hl)) ?_)
   unfold prV
   rw [hs,Bool.true_and]
   refine Wp.brn (fun h=>?_) (fun h=>?_)
   ·
    have h:tabB s.posters = true:=h
    rw [h]
    exact Wp.optF (Valid_eq s.surplus) rfl
   ·
    have h:tabB s.posters = false:=h
    rw [h]
    rfl
 ·
  rw [K0_eq]
  show l.length - _ < _
  omega
noncomputable def accrued (p:Post) (c w:U) (since:I .u64):Post :=
 (p.1,(U.of (p.due.val + (c.val + w.val)),(U.of (p.costs.val + c.val),(U.of (p.rewards.val + w.val),(p.paid,((if p.due.val = 0∧0 < p.due.val + (c.val + w.val) then since else p.since),()))))))
def accFits (p:Post) (c w:U):Prop:=p.due.val + (c.val + w.val) < U.top∧p.costs.val + c.val < U.top∧p.rewards.val + w.val < U.top
open Classical in
noncomputable def accrueS (l:List Post) (a:I .u64) (c w:U) (since:I .u64):List Post × I .i64 :=
 if accFits (rdL dP l (atN l a)) c w then (setAt l (atN l a) (accrued (rdL dP l (atN l a)) c w since),I.of .i64 0) else ([],I.of .i64 4)
theorem errS_ok {n:Nat}:I.neb (errS n).2 (I.of .i64 0) = decide (¬ n < U.top):=by
 by_cases h:n < U.top
 ·
  rw [errS_lt h,decide_eq_false (by simpa using h)]; rfl
 ·
  rw [errS_ge (by omega),decide_eq_true h]; rfl
theorem Accrue_eq (l:List Post) (a:I .u64) (c w:U) (since:I .u64) (hT:TableOk l) (hf:atN l a < l.length) (hs:since.nat ≠ 0) :
  poster_Accrue K0 ((l,(a,(c,(w,(since,()))))),()) = some (((accrueS l a c w since).1,((accrueS l a c w since).2,())),()):=by
 refine Wp.out (T:=fun o=>o = _) ?_
 have hl:=hT.1
 unfold poster_Accrue accrueS
 have e:atI l a = i6 (atN l a):=if_pos hf
 refine Wp.optF (PFind_eq (l:=l) a (by omega)) ?_
 refine Wp.jnI (Wp.jnI ?_)
 refine Wp.optF (PValid_eq (l:=l) (by omega)) ?_
 refine Wp.brnF (tab_not hT) ?_
 have e0:I.eqb since (I.of .u64 0) = false:=by rw [eqb_nat]; exact decide_eq_false hs
 refine Wp.brnF e0 ?_
 rw [e]
 generalize atN l a = k at hf ⊢
 simp only [i6_nat (show k < 9223372036854775808 by omega)]
 refine Wp.brnF (by rw [of64_0,i6_ltb (by omega) (by omega)]; exact decide_eq_false (by omega)) ?_
 refine Wp.brnT (i6_inB (by exact hf) (by omega)) ?_
 generalize rdL dP l k = p
 refine Wp.optF (Add_errS c w) (Wp.optF (Add_errS _ _) (Wp.optF (Add_errS _ _) (Wp.optF (Add_errS _ _) (Wp.jnI ?_))))
 simp only [errS_ok]
 refine Wp.brn (fun h=>?_) (fun h=>?_)
 ·
  have h:=of_decide_eq_true h
  rw [if_neg (fun hh=>by have:=hh.1; omega)]
  rfl
 have h:=of_decide_eq_false h
 have h1:c.val + w.val < U.top:=by omega
 simp only [errS_lt h1,U.val_of h1]
 refine Wp.brn (fun h=>?_) (fun h=>?_)
 ·
  have h:=of_decide_eq_true h
  rw [if_neg (fun hh=>by have:=hh.1; exact h this)]
  rfl
 have h:=of_decide_eq_false h
 have h2:p.2.1.val + (c.val + w.val) < U.top:=by omega
 simp only [errS_lt h2]
 refine Wp.brn (fun h=>?_) (fun h=>?_)
 ·
  have h:=of_decide_eq_true h
  rw [if_neg (fun hh=>by have:=hh.2.1; exact h this)]
  rfl
 have h:=of_decide_eq_false h
 have h3:p.2.2.1.val + c.val < U.top:=by omega
 simp only [errS_lt h3]
 refine Wp.brn (fun h=>?_) (fun h=>?_)
 ·
  have h:=of_decide_eq_true h
  rw [if_neg (fun hh=>by have:=hh.2.2; exact h this)]
  rfl
 have h:=of_decide_eq_false h
 have h4:p.2.2.2.1.val + w.val < U.top:=by omega
 simp only [errS_lt h4]
 rw [if_pos ⟨h2,h3,h4⟩]
 refine Wp.jnI (Wp.optF (poster_isZero_eq _) ?_)
 have hq:∀ (q:Post),Wp (fun o=>o = some ((setAt l k q,(I.of .i64 0,())),())) (optF none (a0S K0 ((l,()),())) fun y8=>brn (inB (i6 k) (a1I y8.2.1)) (some ((setL y8.2.1 (I.nat (i6 k)) q,(I.of .i64 0,())),())) none):=by
  intro q
  refine Wp.optF (Clone_ok l (by omega)) (Wp.brnT (i6_inB (by exact hf) (by omega)) ?_)
  rw [i6_nat (by omega)]
  rfl
 have hd:(U.of (p.2.1.val + (c.val + w.val))).val = p.2.1.val + (c.val + w.val):=U.val_of h2
 refine Wp.brn (fun h=>?_) (fun h=>?_)
 ·
  have h:p.2.1.val = 0:=of_decide_eq_true h
  refine Wp.optF (poster_isZero_eq _) ?_
  refine Wp.brn (fun h'=>?_) (fun h'=>?_)
  ·
   have h':=of_decide_eq_false (bnot_t h')
   rw [hd] at h'
   have e:accrued p c w since = (p.1,(U.of (p.due.val + (c.val + w.val)),(U.of (p.costs.val + c.val),(U.of (p.rewards.val + w.val),(p.paid,(since,())))))):=by
    unfold accrued; rw [if_pos ⟨h,by show 0 < p.2.1.val + _; omega⟩]
   rw [e]
   have:=hq (p.1,(U.of (p.due.val + (c.val + w.val)),(U.of (p.costs.val + c.val),(U.of (p.rewards.val + w.val),(p.paid,(since,()))))))
   exact this
  ·
   have h':=of_decide_eq_true (bnot_f h')
   rw [hd] at h'
   have e:accrued p c w since = (p.1,(U.of (p.due.val + (c.val + w.val)),(U.of (p.costs.val + c.val),(U.of (p.rewards.val + w.val),(p.paid,(p.since,())))))):=by
    unfold accrued; rw [if_neg (fun hh=>by have:=hh.2; have:0 < p.2.1.val + (c.val + w.val):=this; omega)]
   rw [e]
   exact hq _
 ·
  have h:¬ p.2.1.val = 0:=of_decide_eq_false h
  have e:accrued p c w since = (p.1,(U.of (p.due.val + (c.val + w.val)),(U.of (p.costs.val + c.val),(U.of (p.rewards.val + w.val),(p.paid,(p.since,())))))):=by
   unfold accrued; rw [if_neg (fun hh=>h hh.1)]
  rw [e]
  exact hq _
end Sym

/- Pricer: a report. -/
namespace Sym
open Go
abbrev RepT.from' (r:RepT):I .u64:=r.1
abbrev RepT.upto (r:RepT):I .u64:=r.2.1
abbrev RepT.cost (r:RepT):U:=r.2.2.1
abbrev BITS128:Nat:=340282366920938463463374607431768211456
noncomputable def checkS (s:PrT) (p:Prm) (r:RepT) (now:I .u64):I .i64 :=
 if prV s = true then
  if validP p = true then
   if atN s.posters r.from' < s.posters.length then
    if s.last.nat ≤ r.upto.nat∧r.upto.nat ≤ now.nat then
     if r.cost.val < BITS128 then
      if s.reports.nat = 18446744073709551615 then I.of .i64 4 else I.of .i64 0
     else I.of .i64 2
    else I.of .i64 14
   else I.of .i64 8
  else I.of .i64 15
 else I.of .i64 2
theorem bits_le {n k:Nat} (h:Bits n k) (hk:k ≤ 256):I.ltb (I.of .i64 128) (i6 k) = decide (¬ n < BITS128):=by
 have e:I.of .i64 128 = i6 128:=rfl
 rw [e,i6_ltb (by omega) (by omega)]
 have:=h 128
 have e2:(2:Nat) ^ 128 = BITS128:=by decide
 rw [e2] at this
 by_cases hc:n < BITS128
 ·
  rw [decide_eq_false (by omega),decide_eq_false (by simpa using hc)]
 ·
  rw [decide_eq_true (by omega),decide_eq_true hc]
theorem check_eq (s:PrT) (p:Prm) (r:RepT) (now:I .u64) (hl:s.posters.length ≤ 1073741824) :
  pricer_checkReport K0 ((s,(p,(r,(now,())))),()) = some ((checkS s p r now,()),()):=by
 refine Wp.out (T:=fun o=>o = _) ?_
 unfold pricer_checkReport checkS
 refine Wp.optF (PrValid_eq s hl) ?_
 refine Wp.brn (fun h=>?_) (fun h=>?_)
 ·
  have h:prV s = false:=bnot_t h
  rw [if_neg (by rw [h]; simp)]; rfl
 have h:prV s = true:=bnot_f h
 rw [if_pos h]
 refine Wp.optF (PrmValid_eq p) ?_
 refine Wp.brn (fun h=>?_) (fun h=>?_)
 ·
  have h:validP p = false:=bnot_t h
  rw [if_neg (by rw [h]; simp)]; rfl
 have h:validP p = true:=bnot_f h
 rw [if_pos h]
 refine Wp.optF (PFind_eq (l:=s.posters) r.from' hl) ?_
 rw [show (((atI s.posters r.from',()),()):((I .i64) × Unit) × Unit).1.1 = atI s.posters r.from' from rfl,atI_neg hl]
 refine Wp.brn (fun h=>?_) (fun h=>?_)
 ·
  rw [if_neg (of_decide_eq_true h)]; rfl
 rw [if_pos (by simpa using of_decide_eq_false h)]
 refine Wp.jnI ?_
 simp only [ltb_nat]
 have fin:∀ b:Bool,b = decide (¬ (s.last.nat ≤ r.upto.nat∧r.upto.nat ≤ now.nat))→Wp (fun o=>o = some (((if s.last.nat ≤ r.upto.nat∧r.upto.nat ≤ now.nat then if r.cost.val < BITS128 then if s.reports.nat = 18446744073709551615 then I.of .i64 4 else I.of .i64 0 else I.of .i64 2 else I.of .i64 14),()),()))
   (brn b (some ((I.of .i64 14,()),())) (optF none (uint256_BitLen K0 ((r.2.2.1,()),())) fun y4=>brn (I.ltb (I.of .i64 128) y4.1.1) (some ((I.of .i64 2,()),())) (brn (I.eqb s.2.2.2.1 (I.of .u64 18446744073709551615)) (some ((I.of .i64 4,()),())) (some ((I.of .i64 0,()),()))))):=by
  intro b hb
  subst hb
  refine Wp.brn (fun h=>?_) (fun h=>?_)
  ·
   rw [if_neg (of_decide_eq_true h)]; rfl
  rw [if_pos (Classical.byContradiction (of_decide_eq_false h))]
  refine Wp.call (BitLen_ok r.cost) ?_
  rintro _ ⟨k,rfl,hB,hk⟩
  rw [show (((i6 k,()),()):((I .i64) × Unit) × Unit).1.1 = i6 k from rfl,bits_le hB hk]
  refine Wp.brn (fun h=>?_) (fun h=>?_)
  ·
   rw [if_neg (of_decide_eq_true h)]; rfl
  rw [if_pos (Classical.byContradiction (of_decide_eq_false h))]
  simp only [eqb_nat]
  have e0:(I.of .u64 18446744073709551615).nat = 18446744073709551615:=rfl
  rw [e0]
  refine Wp.brn (fun h=>?_) (fun h=>?_)
  ·
   rw [if_pos (of_decide_eq_true h)]; rfl
  rw [if_neg (of_decide_eq_false h)]; rfl
 refine Wp.brn (fun h=>?_) (fun h=>?_)
 ·
  exact fin true (decide_eq_true (by have:r.upto.nat < s.last.nat:=of_decide_eq_true h; omega)).symm
 ·
  refine fin _ ?_
  have:¬ r.upto.nat < s.last.nat:=of_decide_eq_false h
  show decide (now.nat < r.upto.nat) = _
  rw [decide_eq_decide]
  omega
noncomputable abbrev zPr:PrT:=(Z_U,((I.of .u64 0),((I.of .u64 0),((I.of .u64 0),(Z_S_api_Int256,([],()))))))
noncomputable abbrev zOut:OutT:=(I.of .u64 0,(Z_U,([],())))
def repN (s:PrT) (r:RepT) (now:I .u64):Nat:=allocN s.units s.last r.upto now
theorem allocate_eq (s:PrT) (p:Prm) (r:RepT) (now:I .u64) (h1:s.last.nat ≤ r.upto.nat) (h2:r.upto.nat ≤ now.nat) :
  pricer_allocate K0 ((s,(p,(r,(now,())))),()) = some (if p.rpu.val * repN s r now < U.top then ((I.of .u64 (repN s r now:Int),(U.of (p.rpu.val * repN s r now),([],()))),(I.of .i64 0,())) else (zOut,(I.of .i64 4,())),()):=by
 have hle:=allocN_le (units:=s.units) h1 h2
 have hu:=a2B s.units
 refine Wp.out (T:=fun o=>o = _) ?_
 unfold pricer_allocate repN
 refine Wp.optF (Alloc_eq s.units s.last r.upto now h1 h2) ?_
 refine Wp.brnF rfl ?_
 refine Wp.optF (a1Y _) (Wp.optF (Mul_ok _ _) ?_)
 have e:(u64U (I.of .u64 (allocN s.units s.last r.upto now:Int))).val = allocN s.units s.last r.upto now:=by rw [u64U_val]; exact of_nat (by omega)
 simp only [e]
 have e2:p.2.2.2.2.2.2.2.1 = p.rpu:=rfl
 rw [e2,errS_ok]
 refine Wp.brn (fun h=>?_) (fun h=>?_)
 ·
  rw [if_neg (of_decide_eq_true h)]
  have:=of_decide_eq_true h
  rw [errS_ge (by omega)]
  rfl
 ·
  have h:=of_decide_eq_false h
  have h:p.rpu.val * allocN s.units s.last r.upto now < U.top:=by omega
  rw [if_pos h,errS_lt h]
  rfl
noncomputable def surpS (pool:U) (l:List Post) (pay:List Pay):S:=S.of (((pool.val - sumN (pay.map amt):Nat):Int) - (sumN (l.map dueN):Int))
theorem Surplus_eq (a b:U):l1price_Surplus K0 ((a,(b,())),()) = some ((S.of ((a.val:Int) - b.val),()),()):=by
 refine Wp.out (T:=fun o=>o = _) ?_
 unfold l1price_Surplus
 exact Wp.optF (Diff_eq a b) rfl
open Classical in
noncomputable def adjustS (s:PrT) (p:Prm) (pool:U) (t:OutT):PrT × I .i64 :=
 if sumN (s.posters.map dueN) < U.top then
  if t.1.nat = 0 then (s,I.of .i64 0)
  else if I.neb (nextS s.price (surpS pool s.posters t.2.2.1) s.surplus t.1 p).2 (I.of .i64 0) = true then (zPr,(nextS s.price (surpS pool s.posters t.2.2.1) s.surplus t.1 p).2)
  else (((nextS s.price (surpS pool s.posters t.2.2.1) s.surplus t.1 p).1,(s.units,(s.last,(s.reports,(surpS pool s.posters t.2.2.1,(s.posters,())))))),I.of .i64 0)
 else (zPr,I.of .i64 4)
theorem adjust_eq (s:PrT) (p:Prm) (pool:U) (t:OutT) (hT:TableOk s.posters) (hp:t.2.2.1.length ≤ 1073741824) (hs:sumN (t.2.2.1.map amt) < U.top) :
  pricer_adjust K0 ((s,(p,(pool,(t,())))),()) = some (((adjustS s p pool t).1,((adjustS s p pool t).2,())),()):=by
 have hl:=hT.1
 refine Wp.out (T:=fun o=>o = _) ?_
 unfold pricer_adjust adjustS
 refine Wp.optF (PSum_eq hp) ?_
 simp only [errS_lt hs]
 refine Wp.brnF rfl ?_
 have hd:=TotalDue_eq (l:=s.posters) (by omega)
 rw [if_pos (tabB_t.2 hT)] at hd
 refine Wp.optF hd ?_
 simp only [errS_ok]
 refine Wp.brn (fun h=>?_) (fun h=>?_)
 ·
  have h:=of_decide_eq_true h
  rw [if_neg h,errS_ge (by omega)]
  rfl
 have h:=of_decide_eq_false h
 have hsd:sumN (s.posters.map dueN) < U.top:=by omega
 rw [if_pos hsd,errS_lt hsd]
 simp only [eqb_nat]
 have e0:(I.of .u64 0).nat = 0:=rfl
 rw [e0]
 refine Wp.brn (fun h=>?_) (fun h=>?_)
 ·
  rw [if_pos (of_decide_eq_true h)]; rfl
 rw [if_neg (of_decide_eq_false h)]
 refine Wp.optF (SatSub_ok _ _) (Wp.optF (Surplus_eq _ _) ?_)
 have e1:S.of (((U.of (pool.val - (U.of (sumN (t.2.2.1.map amt))).val)).val:Int) - ((U.of (sumN (s.posters.map dueN))).val:Int)) = surpS pool s.posters t.2.2.1:=by
  unfold surpS
  rw [U.val_of hs,U.val_of hsd,U.val_of (by have:=pool.lt; omega)]
 simp only [e1]
 refine Wp.optF (Next_eq _ _ _ _ _) ?_
 refine Wp.brn (fun h=>?_) (fun h=>?_)
 ·
  rw [if_pos h]; rfl
 ·
  rw [if_neg (by rw [show I.neb (nextS s.price (surpS pool s.posters t.2.2.1) s.surplus t.1 p).2 (I.of .i64 0) = false from h]; simp)]; 
  have h:=niff_neb.1 h
  have h:(nextS s.price (surpS pool s.posters t.2.2.1) s.surplus t.1 p).2 = I.of .i64 0:=I.ext' h
  rfl
end Sym

/- Pricer: a report as a whole. -/
namespace Sym
open Go
theorem deltaZ_cases {n o:Int} {u E J:Nat}:((deltaZ n o u E J).2 = I.of .i64 4 ∨ (deltaZ n o u E J).2 = I.of .i64 0)∧validB (deltaZ n o u E J).1 = true:=by
 have h0:validB (S.of 0) = true:=S.of_valid (by decide)
 unfold deltaZ
 split
 ·
  split
  ·
   split
   ·
    rename_i h
    exact ⟨.inr rfl,S.of_valid (Nat.lt_of_le_of_lt (Int.natAbs_ediv_le_natAbs _ _) h)⟩
   ·
    exact ⟨.inl rfl,h0⟩
  ·
   exact ⟨.inl rfl,h0⟩
 ·
  exact ⟨.inl rfl,h0⟩
theorem errS_cases (n:Nat):(errS n).2 = I.of .i64 4 ∨ (errS n).2 = I.of .i64 0:=by
 unfold errS; split
 ·
  exact .inr rfl
 ·
  exact .inl rfl
theorem next_err {c:U} {a b:S} {u:I .u64} {p:Prm} (hp:validP p = true) (ha:validB a = true) (hb:validB b = true):(nextS c a b u p).2 = I.of .i64 4 ∨ (nextS c a b u p).2 = I.of .i64 0:=by
 unfold nextS
 rw [if_pos hp,if_pos ha,if_pos hb]
 split
 ·
  exact .inr rfl
 ·
  rename_i hu
  rw [deltaS_t hp ha hb hu]
  have ⟨h1,h2⟩:=deltaZ_cases (n:=a.int) (o:=b.int) (u:=u.nat) (E:=(Prm.eq p).nat) (J:=(Prm.inertia p).nat)
  split
  ·
   exact h1
  ·
   unfold clampS
   rw [if_pos h2]
   split
   ·
    exact .inr rfl
   ·
    exact errS_cases _
theorem accrueS_ok {l:List Post} {a:I .u64} {c w:U} {since:I .u64} (hT:TableOk l) (hf:atN l a < l.length) (hs:since.nat ≠ 0) :
  ((accrueS l a c w since).2 = I.of .i64 4∧(accrueS l a c w since).1 = []) ∨
  ((accrueS l a c w since).2 = I.of .i64 0∧accFits (rdL dP l (atN l a)) c w∧(accrueS l a c w since).1 = setAt l (atN l a) (accrued (rdL dP l (atN l a)) c w since)∧TableOk (accrueS l a c w since).1):=by
 unfold accrueS
 split
 ·
  rename_i h
  refine .inr ⟨rfl,h,rfl,?_⟩
  have hv:=nat_val since
  refine set_ok hT hf ?_ rfl
  refine accrued_ok (hT.2 _ hf).1 c w since (by omega) h.1 h.2.1 h.2.2 _ ?_
  by_cases hd:(Post.due (rdL dP l (atN l a))).val = 0∧0 < (Post.due (rdL dP l (atN l a))).val + (c.val + w.val)
  ·
   rw [if_pos hd]; exact .inl ⟨rfl,hd.1,hd.2⟩
  ·
   rw [if_neg hd]; exact .inr ⟨rfl,hd⟩
 ·
  exact .inl ⟨rfl,rfl⟩
noncomputable def repTab (s:PrT) (p:Prm) (r:RepT) (now:I .u64):List Post × I .i64:=accrueS s.posters r.from' r.cost (U.of (p.rpu.val * repN s r now)) (I.add s.reports (I.of .u64 1))
noncomputable def repPay (l:List Post) (pool:U):List Pay:=planS (ord l) pool.val
noncomputable def repMid (s:PrT) (l:List Post):PrT:=(s.price,(s.units,(s.last,(I.add s.reports (I.of .u64 1),(s.surplus,(l,()))))))
noncomputable def repOut (s:PrT) (p:Prm) (r:RepT) (now:I .u64) (pay:List Pay):OutT:=(I.of .u64 (repN s r now:Int),(U.of (p.rpu.val * repN s r now),(pay,())))
noncomputable def repFin (s:PrT) (n:Nat) (r:RepT) (q:PrT):PrT:=(q.1,(I.sub q.2.1 (I.of .u64 (n:Int)),(r.upto,q.2.2.2)))
noncomputable def reportS (s:PrT) (p:Prm) (pool:U) (r:RepT) (now:I .u64):PrT × OutT × I .i64 :=
 if (checkS s p r now).val = 0 then
  if p.rpu.val * repN s r now < U.top then
   if (repTab s p r now).2.val = 0 then
    if (applyS (repTab s p r now).1 (repPay (repTab s p r now).1 pool)).2.val = 0 then
     if (adjustS (repMid s (applyS (repTab s p r now).1 (repPay (repTab s p r now).1 pool)).1) p pool (repOut s p r now (repPay (repTab s p r now).1 pool))).2.val = 0 then
      (repFin s (repN s r now) r (adjustS (repMid s (applyS (repTab s p r now).1 (repPay (repTab s p r now).1 pool)).1) p pool (repOut s p r now (repPay (repTab s p r now).1 pool))).1,repOut s p r now (repPay (repTab s p r now).1 pool),I.of .i64 0)
     else (zPr,zOut,I.of .i64 4)
    else (zPr,zOut,I.of .i64 4)
   else (zPr,zOut,I.of .i64 4)
  else (zPr,zOut,I.of .i64 4)
 else (zPr,zOut,checkS s p r now)
structure Chk (s:PrT) (p:Prm) (r:RepT) (now:I .u64):Prop where
 since:∀ q ∈ s.posters,(Post.since q).nat ≤ s.reports.nat
 tab:TableOk s.posters
 sur:validB s.surplus = true
 par:validP p = true
 fnd:atN s.posters r.from' < s.posters.length
 lo:s.last.nat ≤ r.upto.nat
 hi:r.upto.nat ≤ now.nat
 cost:r.cost.val < BITS128
 cnt:s.reports.nat < 18446744073709551615
theorem check_zero {s:PrT} {p:Prm} {r:RepT} {now:I .u64} (h:(checkS s p r now).val = 0):Chk s p r now:=by
 unfold checkS at h
 split at h
 ·
  rename_i h1
  split at h
  ·
   rename_i h2
   split at h
   ·
    rename_i h3
    split at h
    ·
     rename_i h4
     split at h
     ·
      rename_i h5
      split at h
      ·
       exact absurd h (by decide)
      ·
       rename_i h6
       have ⟨a,b,c⟩:=prV_t.1 h1
       have:=a2B s.reports
       exact ⟨a,b,c,h2,h3,h4.1,h4.2,h5,by omega⟩
     ·
      exact absurd h (by decide)
    ·
     exact absurd h (by decide)
   ·
    exact absurd h (by decide)
  ·
   exact absurd h (by decide)
 ·
  exact absurd h (by decide)
theorem rep_count {s:PrT} {p:Prm} {r:RepT} {now:I .u64} (h:Chk s p r now):(I.add s.reports (I.of .u64 1)).nat = s.reports.nat + 1:=by
 have:=h.cnt
 have:=nat_val s.reports
 have h1:(I.of .u64 1).val = 1:=rfl
 have:=add_u64 (a:=s.reports) (b:=I.of .u64 1) (by omega)
 have:=nat_val (I.add s.reports (I.of .u64 1))
 omega
theorem repPay_len (l:List Post) (pool:U):(repPay l pool).length ≤ l.length:=Nat.le_trans (planS_len _ _) (ord_len l)
theorem repPay_sum (l:List Post) (pool:U):sumN ((repPay l pool).map amt) = min pool.val (sumN (l.map dueN)):=by
 unfold repPay
 rw [plan_sum (ord l) pool.val pool.lt,ord_sum]
theorem rep_apply {l:List Post} (hT:TableOk l) (pool:U) :
  (applyS l (repPay l pool)).2 = I.of .i64 4 ∨ ((applyS l (repPay l pool)).2 = I.of .i64 0∧TableOk (applyS l (repPay l pool)).1∧(applyS l (repPay l pool)).1.length = l.length ∧
   (∀ i,Post.addr (rdL dP (applyS l (repPay l pool)).1 i) = Post.addr (rdL dP l i))∧sumN ((applyS l (repPay l pool)).1.map dueN) + sumN ((repPay l pool).map amt) = sumN (l.map dueN)):=by
 rcases apply_plan (ord l) pool.val l pool.lt hT (fun p hp=>ord_mem hp) (ord_apart hT) with h | ⟨h1,h2,h3,h4,h5,_,_⟩
 ·
  exact .inl h
 ·
  exact .inr ⟨h1,h2,h3,h4,h5⟩
theorem four_ne:(I.of .i64 4).val ≠ 0:=by decide
theorem Report_eq (s:PrT) (p:Prm) (pool:U) (r:RepT) (now:I .u64) (hl:s.posters.length ≤ 1073741824) :
  pricer_Report K0 ((s,(p,(pool,(r,(now,()))))),()) = some (((reportS s p pool r now).1,((reportS s p pool r now).2.1,((reportS s p pool r now).2.2,()))),()):=by
 refine Wp.out (T:=fun o=>o = _) ?_
 unfold pricer_Report reportS
 refine Wp.optF (check_eq s p r now hl) ?_
 refine Wp.brn (fun h=>?_) (fun h=>?_)
 ·
  have h:¬ (checkS s p r now).val = 0:=iff_neb.1 h
  rw [if_neg h]
  rfl
 have h0:(checkS s p r now).val = 0:=niff_neb.1 h
 rw [if_pos h0]
 have hC:=check_zero h0
 refine Wp.optF (allocate_eq s p r now hC.lo hC.hi) (Wp.jnI ?_)
 by_cases hw:p.rpu.val * repN s r now < U.top
 case neg =>
  simp only [if_neg hw]
  exact Wp.brnF rfl (Wp.jnI (Wp.brnF rfl (Wp.jnI (Wp.brnF rfl (Wp.jnI (Wp.brnF rfl (Wp.brnT rfl rfl)))))))
 simp only [if_pos hw]
 refine Wp.brnT rfl ?_
 have hcnt:=rep_count hC
 refine Wp.optF (Accrue_eq s.posters r.from' r.cost _ _ hC.tab hC.fnd (by rw [hcnt]; omega)) ?_
 have hA:=accrueS_ok (c:=r.cost) (w:=U.of (p.rpu.val * repN s r now)) (since:=I.add s.reports (I.of .u64 1)) hC.tab hC.fnd (by rw [hcnt]; omega)
 have hL:accrueS s.posters r.from' r.cost (U.of (p.rpu.val * repN s r now)) (I.add s.reports (I.of .u64 1)) = repTab s p r now:=rfl
 rw [hL] at hA ⊢
 rcases hA with ⟨hA,_⟩ | ⟨hA,_,_,hT⟩
 ·
  rw [if_neg (by rw [hA]; exact four_ne)]
  simp only [hA]
  exact Wp.jnI (Wp.brnF rfl (Wp.jnI (Wp.brnF rfl (Wp.jnI (Wp.brnF rfl (Wp.brnT rfl rfl))))))
 rw [if_pos (by rw [hA]; rfl)]
 simp only [hA]
 refine Wp.jnI (Wp.brnT rfl ?_)
 generalize (repTab s p r now).1 = l at hT ⊢
 have hl64:=hT.1
 have hP:=PPlan_eq l pool (by omega)
 rw [planR_ok hT pool] at hP
 refine Wp.optF hP (Wp.jnI (Wp.brnT rfl ?_))
 have hpl:=repPay_len l pool
 refine Wp.optF (PApply_eq l (planS (ord l) pool.val) (by omega) (by show (repPay l pool).length ≤ _; omega)) ?_
 rw [show planS (ord l) pool.val = repPay l pool from rfl]
 rcases rep_apply hT pool with hB | ⟨hB,hT2,_,_,_⟩
 ·
  rw [if_neg (by rw [hB]; exact four_ne)]
  simp only [hB]
  exact Wp.jnI (Wp.brnF rfl (Wp.brnT rfl rfl))
 rw [if_pos (by rw [hB]; rfl)]
 simp only [hB]
 refine Wp.jnI (Wp.brnT rfl ?_)
 have hsum:=repPay_sum l pool
 have hpo:=pool.lt
 refine Wp.optF (adjust_eq (repMid s (applyS l (repPay l pool)).1) p pool (repOut s p r now (repPay l pool)) hT2 (by show (repPay l pool).length ≤ _; omega) (by show sumN ((repPay l pool).map amt) < _; omega)) ?_
 have hE:(adjustS (repMid s (applyS l (repPay l pool)).1) p pool (repOut s p r now (repPay l pool))).2 = I.of .i64 4 ∨ (adjustS (repMid s (applyS l (repPay l pool)).1) p pool (repOut s p r now (repPay l pool))).2 = I.of .i64 0:=by
  unfold adjustS
  split
  ·
   rename_i hd
   split
   ·
    exact .inr rfl
   ·
    split
    ·
     refine next_err hC.par (S.of_valid ?_) hC.sur
     show (((pool.val - sumN ((repPay l pool).map amt):Nat):Int) - (sumN ((applyS l (repPay l pool)).1.map dueN):Int)).natAbs < U.top
     have hd:sumN ((applyS l (repPay l pool)).1.map dueN) < U.top:=hd
     omega
    ·
     exact .inr rfl
  ·
   exact .inl rfl
 rcases hE with hE | hE
 ·
  rw [if_neg (by rw [hE]; exact four_ne)]
  simp only [hE]
  exact Wp.brnT rfl rfl
 ·
  rw [if_pos (by rw [hE]; rfl)]
  simp only [hE]
  exact Wp.brnF rfl rfl
end Sym

/- Pricer: posters and units added. -/
namespace Sym
open Go
noncomputable def newP (a:I .u64):Post:=(a,(Z_U,(Z_U,(Z_U,(Z_U,((I.of .u64 0),()))))))
noncomputable def insS:List Post→I .u64→List Post
 | [],a=>[newP a]
 | p :: r,a=>if (Post.addr p).nat < a.nat then p :: insS r a else newP a :: p :: r
theorem insS_step {l:List Post} {a:I .u64} {i:Nat} (hi:i < l.length) (h:(Post.addr (rdL dP l i)).nat < a.nat):insS (l.drop i) a = rdL dP l i :: insS (l.drop (i + 1)) a:=by
 rw [List.drop_eq_getElem_cons hi,← rdL_eq dP l i hi]
 exact if_pos h
theorem insS_stop {l:List Post} {a:I .u64} {i:Nat} (hi:i < l.length) (h:¬ (Post.addr (rdL dP l i)).nat < a.nat):insS (l.drop i) a = newP a :: l.drop i:=by
 rw [List.drop_eq_getElem_cons hi,← rdL_eq dP l i hi]
 exact if_neg h
theorem take_rdL {X:Type} (d:X) {l:List X} {i:Nat} (hi:i < l.length):l.take (i + 1) = l.take i ++ [rdL d l i]:=by
 rw [rdL_eq d l i hi,List.take_append_getElem]
open Classical in
noncomputable def addPS (l:List Post) (a:I .u64):List Post × I .i64 :=
 if tabB l = true∧a.nat ≠ 0 then
  if atN l a < l.length then ([],I.of .i64 9)
  else if l.length = 64 then ([],I.of .i64 7) else (insS l a,I.of .i64 0)
 else ([],I.of .i64 2)
theorem atI_leb {l:List Post} {a:I .u64} (hl:l.length ≤ 1073741824):I.leb (I.of .i64 0) (atI l a) = decide (atN l a < l.length):=by
 have:=atI_neg (l:=l) (a:=a) hl
 by_cases h:atN l a < l.length
 ·
  rw [decide_eq_false (by simpa using h)] at this
  rw [decide_eq_true h]
  exact iff_leb.2 (niff_ltb.1 this)
 ·
  rw [decide_eq_true h] at this
  rw [decide_eq_false h]
  exact niff_leb.2 (iff_ltb.1 this)
theorem PAdd_eq (l:List Post) (a:I .u64) (hl:l.length ≤ 1073741824):poster_Add K0 ((l,(a,())),()) = some (((addPS l a).1,((addPS l a).2,())),()):=by
 refine Wp.out (T:=fun o=>o = _) ?_
 unfold poster_Add addPS
 refine Wp.jnI (Wp.jnI (Wp.optF (PValid_eq hl) ?_))
 have e0:(I.of .u64 0).nat = 0:=rfl
 have fin:∀ b:Bool,b = decide (¬ (tabB l = true∧a.nat ≠ 0))→Wp (fun o=>o = some (((if tabB l = true∧a.nat ≠ 0 then if atN l a < l.length then (([]:List Post),I.of .i64 9) else if l.length = 64 then ([],I.of .i64 7) else (insS l a,I.of .i64 0) else ([],I.of .i64 2)).1,
   ((if tabB l = true∧a.nat ≠ 0 then if atN l a < l.length then (([]:List Post),I.of .i64 9) else if l.length = 64 then ([],I.of .i64 7) else (insS l a,I.of .i64 0) else ([],I.of .i64 2)).2,())),()))
   (brn b (some (([],((I.of .i64 2),())),())) (optF none (poster_Find K0 ((l,(a,())),())) fun y2=>brn (I.leb (I.of .i64 0) y2.1.1) (some (([],((I.of .i64 9),())),())) (brn (I.eqb (I.ofNat .i64 (a1I l)) (I.of .i64 64)) (some (([],((I.of .i64 7),())),()))
    (jn (fun (x1:(((List a0E) × ((I .u64) × ((I .i64) × Unit))) × Unit)) =>
      optF (none) (a0S K0 ((x1.1.1,()),())) fun y2 =>
      optF (none) (insertF ((x1.1.2.2.1,()),(y2.2.1,(((x1.1.2.1,(Z_U,(Z_U,(Z_U,(Z_U,((I.of .u64 0),())))))) :: []),())))) fun y3 =>
      some ((y3.2.1,((I.of .i64 0),())),())) fun j1 =>
     iter (none) (fun x2 =>
      brn (@I.ltb .i64 x2.1.2.2.1 (I.ofNat .i64 (@a1I a0E x2.1.1)))
      (brn (@inB .i64 x2.1.2.2.1 (@a1I a0E x2.1.1))
       (brn (@I.ltb .u64 (@rdL a0E a1E x2.1.1 (@I.nat .i64 x2.1.2.2.1)).1 x2.1.2.1)
       (.again ((x2.1.1,(x2.1.2.1,((@I.add .i64 x2.1.2.2.1 (I.of .i64 1)),()))),()))
       (.done (j1 ((x2.1.1,(x2.1.2.1,(x2.1.2.2.1,()))),()))))
       (.done (none)))
      (.done (j1 ((x2.1.1,(x2.1.2.1,(x2.1.2.2.1,()))),()))))
     K0 ((l,(a,((I.of .i64 0),()))),()))))):=by
  intro b hb
  subst hb
  refine Wp.brn (fun h=>?_) (fun h=>?_)
  ·
   have h:=of_decide_eq_true h
   simp only [if_neg h]; rfl
  have h:=Classical.byContradiction (of_decide_eq_false h)
  simp only [if_pos h]
  refine Wp.optF (PFind_eq (l:=l) a hl) ?_
  rw [show (((atI l a,()),()):((I .i64) × Unit) × Unit).1.1 = atI l a from rfl,atI_leb hl]
  refine Wp.brn (fun h=>?_) (fun h=>?_)
  ·
   have h:=of_decide_eq_true h
   simp only [if_pos h]; rfl
  have hf:=of_decide_eq_false h
  simp only [if_neg hf]
  have hlim:l.length ≤ 64:=(tabB_t.1 (by assumption:tabB l = true∧a.nat ≠ 0).1).1
  have e64:I.of .i64 64 = i6 64:=rfl
  rw [i6_ofNat,lenL_eq,e64,i6_eqb (by omega) (by omega)]
  refine Wp.brn (fun h=>?_) (fun h=>?_)
  ·
   have h:=of_decide_eq_true h
   simp only [if_pos h]; rfl
  have h64:=of_decide_eq_false h
  simp only [if_neg h64]
  have hT:tabB l = true∧a.nat ≠ 0:=by assumption
  have stop : ∀ i, i ≤ l.length → (insS l a = l.take i ++ newP a :: l.drop i) → Wp (fun o => o = some ((insS l a, (I.of .i64 0, ())), ())) (optF (none) (a0S K0 ((l, ()), ())) fun y2 =>
         optF (none) (insertF ((i6 i,()),(y2.2.1,(((a,(Z_U,(Z_U,(Z_U,(Z_U,((I.of .u64 0),())))))) :: []),())))) fun y3 =>
         some ((y3.2.1,((I.of .i64 0),())),())):=by
   intro i hi he
   refine Wp.optF (Clone_ok l hl) ?_
   have:insertF ((i6 i,()),(l,(((a,(Z_U,(Z_U,(Z_U,(Z_U,((I.of .u64 0),())))))) :: []),()))) = some ((),(insS l a,())):=by
    refine Wp.out (T:=fun o=>o = _) ?_
    unfold insertF
    refine Wp.brnT (i6_inB' hi (by omega)) (Wp.brnT rfl (Wp.brnT (fits_le ?_) ?_))
    ·
     show l.length + 1 ≤ _; omega
    ·
     rw [he,i6_nat (by omega)]
     show some ((),((l.drop 0).take i ++ [newP a] ++ (l.drop i).take (l.length - i),())) = _
     rw [List.drop_zero,List.take_of_length_le (l:=l.drop i) (by simp),List.append_assoc]
     rfl
   exact Wp.optF this rfl
  refine Wp.jnI ?_
  refine Wp.iter (fun t=>∃ i,t = ((l,(a,(i6 i,()))),())∧i ≤ l.length∧insS l a = l.take i ++ insS (l.drop i) a) (fun t=>l.length - t.1.2.2.1.val.toNat) ?_ ⟨0,rfl,by omega,by simp⟩ ?_
  ·
   rintro t ⟨i,rfl,hi,hI⟩
   simp only [of64_1,lenL_eq,i6_ofNat,i6_ltb (show i < 9223372036854775808 by omega) (show l.length < 9223372036854775808 by omega),i6_nat (show i < 9223372036854775808 by omega),i6_add (show i + 1 < 9223372036854775808 by omega),ltb_nat]
   refine Wp.brn (fun hc=>?_) (fun hc=>?_)
   ·
    have hc:=of_decide_eq_true hc
    refine Wp.brnT (i6_inB (by omega) (by omega)) ?_
    refine Wp.brn (fun h=>?_) (fun h=>?_)
    ·
     have h:(Post.addr (rdL dP l i)).nat < a.nat:=of_decide_eq_true h
     refine Wp.again ⟨i + 1,rfl,by omega,?_⟩ (by show l.length - (i6 (i + 1)).val.toNat < l.length - (i6 i).val.toNat; rw [a1J (by omega),a1J (by omega)]; omega)
     rw [hI,insS_step hc h,take_rdL dP hc]
     simp
    ·
     have h:¬ (Post.addr (rdL dP l i)).nat < a.nat:=of_decide_eq_false h
     exact Wp.done (stop i (by omega) (by rw [hI,insS_stop hc h]))
   ·
    have hc:=of_decide_eq_false hc
    refine Wp.done (stop i (by omega) ?_)
    rw [hI,List.drop_eq_nil_of_le (by omega)]
    rfl
  ·
   rw [K0_eq]
   show l.length - _ < _
   omega
 refine Wp.brn (fun h=>?_) (fun h=>?_)
 ·
  have h:tabB l = false:=bnot_t h
  exact fin true (decide_eq_true (by rw [h]; simp)).symm
 ·
  have h:tabB l = true:=bnot_f h
  refine fin _ ?_
  rw [eqb_nat,e0,decide_eq_decide]
  simp [h]
open Classical in
noncomputable def addPosterS (s:PrT) (a:I .u64):PrT × I .i64 :=
 if prV s = true then
  if (addPS s.posters a).2.val = 0 then ((s.price,(s.units,(s.last,(s.reports,(s.surplus,((addPS s.posters a).1,())))))),I.of .i64 0)
  else (zPr,(addPS s.posters a).2)
 else (zPr,I.of .i64 2)
theorem AddPoster_eq (s:PrT) (a:I .u64) (hl:s.posters.length ≤ 1073741824):pricer_AddPoster K0 ((s,(a,())),()) = some (((addPosterS s a).1,((addPosterS s a).2,())),()):=by
 refine Wp.out (T:=fun o=>o = _) ?_
 unfold pricer_AddPoster addPosterS
 refine Wp.optF (PrValid_eq s hl) ?_
 refine Wp.brn (fun h=>?_) (fun h=>?_)
 ·
  have h:prV s = false:=bnot_t h
  rw [if_neg (by rw [h]; simp)]; rfl
 have h:prV s = true:=bnot_f h
 rw [if_pos h]
 refine Wp.optF (PAdd_eq s.posters a hl) ?_
 refine Wp.brn (fun h=>?_) (fun h=>?_)
 ·
  have h:¬ (addPS s.posters a).2.val = 0:=iff_neb.1 h
  rw [if_neg h]; rfl
 ·
  have h:(addPS s.posters a).2.val = 0:=niff_neb.1 h
  rw [if_pos h]; rfl
noncomputable def addUnitsS (s:PrT) (n:I .u64):PrT × I .i64 :=
 if prV s = true then
  if s.units.nat + n.nat < 18446744073709551616 then ((s.price,(I.of .u64 ((s.units.nat + n.nat:Nat):Int),s.2.2)),I.of .i64 0)
  else (zPr,I.of .i64 4)
 else (zPr,I.of .i64 2)
theorem AddUnits_eq (s:PrT) (n:I .u64) (hl:s.posters.length ≤ 1073741824):pricer_AddUnits K0 ((s,(n,())),()) = some (((addUnitsS s n).1,((addUnitsS s n).2,())),()):=by
 refine Wp.out (T:=fun o=>o = _) ?_
 unfold pricer_AddUnits addUnitsS
 refine Wp.optF (PrValid_eq s hl) ?_
 refine Wp.brn (fun h=>?_) (fun h=>?_)
 ·
  have h:prV s = false:=bnot_t h
  rw [if_neg (by rw [h]; simp)]; rfl
 have h:prV s = true:=bnot_f h
 rw [if_pos h]
 obtain ⟨z,q,hz,hv,hq⟩:=add64_nat s.units n (I.of .u64 0) (by decide)
 have hv:z.nat + 18446744073709551616 * q.nat = s.units.nat + n.nat:=hv
 have hzl:=a2B z
 refine Wp.optF hz ?_
 simp only [u64_nz]
 refine Wp.brn (fun h=>?_) (fun h=>?_)
 ·
  have h:=of_decide_eq_true h
  rw [if_neg (by omega)]; rfl
 ·
  have h:=of_decide_eq_false h
  rw [if_pos (by omega)]
  have e:z = I.of .u64 ((s.units.nat + n.nat:Nat):Int):=by
   have:s.units.nat + n.nat = z.nat:=by omega
   rw [this,nat_val]
   exact (I.ext' z.ok).symm
  have hc:pricer_cloned K0 ((s,()),()) = some ((s,()),()):=by
   refine Wp.out (T:=fun o=>o = _) ?_
   unfold pricer_cloned
   exact Wp.optF (Clone_ok s.posters hl) rfl
  refine Wp.optF hc ?_
  rw [← e]
  rfl
end Sym

/- Pricer: what an accepted report has done. -/
namespace Sym
open Go
end Sym

/- Pricer: the reference's parts. -/
namespace Sym
open Go
end Sym

/- Pricer: the reference computes the same. -/
namespace Sym
open Go
end Sym

/- Pricer: the reference's report. -/
namespace Sym
open Go
end Sym

/- The machine of the reference: numbers that need not fit, the ledger. -/
namespace Sym
open Go
end Sym

/- The ledger of the reference. -/
namespace Sym
open Go
abbrev Ac:Type:=a0G
abbrev V4:Type:=S_A4_U
noncomputable abbrev dA:Ac:=Z_S_api_Account
abbrev LgH:Type:=O_pontageref11_Ledger
def aAt (l:List Ac) (a:I .u64):Nat:=l.findIdx fun p=>I.eqb p.1 a
theorem aAt_of {l:List Ac} {a:I .u64} {i:Nat} (hi:i < l.length) (h1:I.eqb (rdL dA l i).1 a = true) (h2:∀ k,k < i→I.eqb (rdL dA l k).1 a = false):aAt l a = i:=by
 unfold aAt
 rw [List.findIdx_eq hi]
 refine ⟨by rw [← rdL_eq dA l i hi]; exact h1,fun k hk=>?_⟩
 rw [← rdL_eq dA l k (by omega)]
 exact h2 k hk
theorem aAt_none {l:List Ac} {a:I .u64} (h2:∀ k,k < l.length→I.eqb (rdL dA l k).1 a = false):aAt l a = l.length:=by
 unfold aAt
 rw [List.findIdx_eq_length]
 intro x hx
 obtain ⟨k,hk,rfl⟩:=mem_rdL dA hx
 exact h2 k hk
noncomputable def getS (l:List Ac) (a:I .u64):Ac:=if aAt l a < l.length then rdL dA l (aAt l a) else (a,(Z_U,((I.of .u64 0),())))
def putS (l:List Ac) (x:Ac):List Ac:=if aAt l x.1 < l.length then setL l (aAt l x.1) x else l ++ [x]
theorem setL_len {X:Type} (l:List X) (i:Nat) (x:X):(setL l i x).length = l.length:=by rw [setL,setAt_eq,List.length_set]
def setBal (x:Ac) (n:U):Ac:=(x.1,(n,x.2.2))
noncomputable def debitB (l:List Ac) (a:I .u64) (n:U):Bool:=decide (n.val ≤ (getS l a).2.1.val)
noncomputable def debitS (l:List Ac) (a:I .u64) (n:U):List Ac:=if n.val ≤ (getS l a).2.1.val then putS l (setBal (getS l a) (U.of ((getS l a).2.1.val - n.val))) else l
end Sym

/- The ledger of the reference: payments, the supply. -/
namespace Sym
open Go
def balN (l:List Ac):Nat:=(l.map fun x=>U.val x.2.1).sum
def vauN (v:V4):Nat:=v.1.val + v.2.1.val + v.2.2.1.val + v.2.2.2.1.val
theorem balN_take {l:List Ac} {i:Nat} (h:i < l.length):balN (l.take (i + 1)) = balN (l.take i) + U.val (rdL dA l i).2.1:=by
 unfold balN
 rw [List.take_add_one,List.getElem?_eq_getElem h,rdL_eq _ _ _ h,List.map_append,List.sum_append]
 simp
def vauI (v:V4) (i:Nat):Nat:=(if 0 < i then v.1.val else 0) + (if 1 < i then v.2.1.val else 0) + (if 2 < i then v.2.2.1.val else 0) + (if 3 < i then v.2.2.2.1.val else 0)
theorem vauI_succ (v:V4) (i:Nat) (h:i < 4):vauI v (i + 1) = vauI v i + U.val (Arr.sel Z_U 4 v i):=by
 rcases (by omega:i = 0 ∨ i = 1 ∨ i = 2 ∨ i = 3) with rfl | rfl | rfl | rfl
 ·
  show vauI v 1 = vauI v 0 + U.val v.1; simp [vauI]
 ·
  show vauI v 2 = vauI v 1 + U.val v.2.1; simp [vauI]
 ·
  show vauI v 3 = vauI v 2 + U.val v.2.2.1; simp [vauI]
 ·
  show vauI v 4 = vauI v 3 + U.val v.2.2.2.1; simp [vauI]
end Sym

/- The ledger of the reference: its methods. -/
namespace Sym
open Go
def lgH (v:V4):LgH:=((),(v,()))
noncomputable def vGet (v:V4) (k:Nat):U:=Arr.sel Z_U 4 v k
noncomputable def incS (l:List Ac) (a:I .u64):I .i64 × List Ac :=
 if a.val = 0 then (I.of .i64 2,l)
 else if (I.add (getS l a).2.2.1 (I.of .u64 1)).val = 0 then (I.of .i64 4,l)
 else (I.of .i64 0,putS l ((getS l a).1,((getS l a).2.1,(I.add (getS l a).2.2.1 (I.of .u64 1),(getS l a).2.2.2))))
end Sym

/- The fees: the whole charge; both programs answer alike. -/
namespace Sym
open Go
def chg (g:I .u64 × I .u64 × I .i64) (lim ex:I .u64) (tip:U):CH :=
 (g.1,g.2.1,I.of .u64 (exeN lim ex g.2.1:Int),I.of .u64 ((g.2.1.nat + exeN lim ex g.2.1:Nat):Int),decide (exeN lim ex g.2.1 < ex.nat),tip,zU,zU,zU,zU,())
def gasR (data:List B8) (lim:I .u64) (cap base unit:U) (p:Prm):I .u64 × I .u64 × I .i64 :=
 if validP p = false then (I.of .u64 0,I.of .u64 0,I.of .i64 15)
 else if base.val = 0 then (I.of .u64 0,I.of .u64 0,I.of .i64 5)
 else if cap.val < base.val then (I.of .u64 0,I.of .u64 0,I.of .i64 12)
 else gasT data lim base unit p.2.2.2.2.2.2.2.2.2.2.1 p.2.2.2.2.2.2.2.2.2.2.2.1
def feeS (data:List B8) (lim ex:I .u64) (cap tip base unit:U) (p:Prm):CH × I .i64 :=
 if I.neb (gasR data lim cap base unit p).2.2 (I.of .i64 0) = true then (zCH,(gasR data lim cap base unit p).2.2)
 else distS (chg (gasR data lim cap base unit p) lim ex (U.of (min tip.val (cap.val - base.val)))) base p.2.2.2.2.2.1 p.2.2.2.2.2.2.1
theorem validP_bips {p:Prm} (h:validP p = true):p.2.2.2.2.2.2.1.nat ≤ 10000:=by
 rw [validP_iff] at h
 have h7:=of_decide_eq_true (h 7 (by omega) (by omega))
 replace h7:(I.of .u64 0).nat ≤ (u64U p.2.2.2.2.2.2.1).val∧(u64U p.2.2.2.2.2.2.1).val ≤ (I.of .u64 10000).nat:=h7
 rw [u64U_val] at h7
 have e2:(I.of .u64 10000).nat = 10000:=rfl
 rw [e2] at h7
 exact h7.2
theorem eq0 (b:U):Ty.eqb (.arr 4 (.int .u64)) b (I.of .u64 0,I.of .u64 0,I.of .u64 0,I.of .u64 0,()) = decide (b.val = 0):=(eqb_u256 b _).trans (by show decide (b.val = U.val zU) = _; rw [show U.val zU = 0 from rfl])
theorem Compute_eq (f1 f2 f3 lim ex:I .u64) (data:List B8) (v cap tip base unit:U) (p:Prm) (hd:data.length ≤ 100000000) :
  txfee_Compute K0 (((f1,f2,f3,v,lim,cap,tip,ex,data,()),base,unit,p,()),()) = some (((feeS data lim ex cap tip base unit p).1,(feeS data lim ex cap tip base unit p).2,()),()):=by
 generalize hg:feeS data lim ex cap tip base unit p = R
 refine Wp.out (T:=fun o=>o = some ((R.1,R.2,()),())) ?_
 unfold feeS gasR at hg
 unfold txfee_Compute
 refine Wp.optF (PrmValid_eq p) ?_
 refine Wp.brn (fun h=>?_) (fun h=>?_)
 ·
  have h:validP p = false:=bnot_t h
  rw [if_pos h] at hg
  rw [← hg]; rfl
 have hv:validP p = true:=bnot_f h
 rw [if_neg (show ¬ validP p = false by rw [hv]; simp)] at hg
 refine Wp.brn (fun h=>?_) (fun h=>?_)
 ·
  have h:base.val = 0:=of_decide_eq_true ((eq0 base).symm.trans h)
  rw [if_pos h] at hg
  rw [← hg]; rfl
 have h0:base.val ≠ 0:=of_decide_eq_false ((eq0 base).symm.trans h)
 rw [if_neg h0] at hg
 refine Wp.optF (txfee_GasPrice_eq f1 f2 f3 lim ex data v cap tip base) ?_
 unfold gasS
 by_cases hc:base.val ≤ cap.val
 ·
  rw [if_neg (Nat.not_lt.2 hc)] at hg
  rw [if_pos hc]
  refine Wp.brnF neb00 ?_
  refine Wp.optF (meter_eq f1 f2 f3 lim ex data v cap tip base unit p hd h0) ?_
  unfold metS
  generalize gasT data lim base unit p.2.2.2.2.2.2.2.2.2.2.1 p.2.2.2.2.2.2.2.2.2.2.2.1 = g at hg ⊢
  by_cases he:I.neb g.2.2 (I.of .i64 0) = true
  ·
   rw [if_pos he] at hg ⊢
   refine Wp.brnT he ?_
   rw [← hg]; rfl
  ·
   rw [if_neg he] at hg ⊢
   refine Wp.brnF neb00 ?_
   have hs:=SatSub_ok (U.of (base.val + min tip.val (cap.val - base.val))) base
   have hcl:=cap.lt
   rw [U.val_of (by omega),Nat.add_sub_cancel_left] at hs
   refine Wp.optF hs ?_
   refine Wp.optF (dist_eq (chg g lim ex (U.of (min tip.val (cap.val - base.val)))) base p (validP_bips hv)) ?_
   rw [hg]
   rfl
 ·
  rw [if_pos (Nat.lt_of_not_le hc)] at hg
  rw [if_neg hc]
  refine Wp.brnT rfl ?_
  rw [← hg]; rfl
end Sym

/- The fees: what is built, what a charge without an error is. -/
namespace Sym
open Go
end Sym

/- The laws of the fees. -/
namespace Sym
open Go
end Sym

/- The base fee of the reference, blocks, parameters. -/
namespace Sym
open Go
end Sym

/- The exponential, the base fee, blocks. -/
namespace Sym
open Go
abbrev Blk0:Type:=S_api_Block
end Sym

/- Hashes and trees of the reference: they end. -/
namespace Sym
open Go
def Tot {Y:Type} (o:Option Y):Prop:=∃ y,o = some y
theorem Wp.tot {R Y:Type} {T:R→Prop} {fail:R} {o:Option Y} {k:Y→R} (ho:Tot o) (h:∀ y,Wp T (k y)):Wp T (Sym.optF fail o k):=by
 obtain ⟨y,rfl⟩:=ho
 exact h y
abbrev Hs:Type:=a0B
end Sym

/- Hashes and trees of the reference: they end, continued. -/
namespace Sym
open Go
theorem appL_len {X:Type} (a b:List X):(appL a b).length = a.length + b.length:=List.length_append
theorem fitsA {X:Type} (a b:List X) (h:a.length + b.length ≤ 1073741824):a1Z (a1I (appL a b)) = true:=fits_le (by show (appL a b).length ≤ _; rw [appL_len]; exact h)
theorem rem_i6 {n m:Nat} (hn:n < 9223372036854775808) (hm:0 < m) (hm2:m < 9223372036854775808):I.rem (i6 n) (i6 m) = i6 (n % m):=by
 apply I.ext'
 rw [rem_i64 (by rw [a1J hn]; omega) (by rw [a1J hm2]; omega),a1J hn,a1J hm2,a1J (Nat.lt_of_lt_of_le (Nat.mod_lt _ hm) (by omega))]
 omega
theorem quo_i6 {n m:Nat} (hn:n < 9223372036854775808) (hm:0 < m) (hm2:m < 9223372036854775808):I.quo (i6 n) (i6 m) = i6 (n / m):=by
 apply I.ext'
 rw [quo_i64 (by rw [a1J hn]; omega) (by rw [a1J hm2]; omega),a1J hn,a1J hm2,a1J (Nat.lt_of_le_of_lt (Nat.div_le_self _ _) hn)]
 omega
end Sym

/- Numbers and byte strings as the wire has them: written, read, and read again. -/
namespace Sym
open Go
abbrev Byt:Type:=List (I .u8)
theorem u8_nat (x:I .u8):(I.nat x:Int) = x.val∧I.nat x < 256:=by
 have h:=u8_range x
 unfold I.nat
 omega
theorem of_u8n (n:Nat):I.nat (I.of .u8 (n:Int)) = n % 256:=by
 have h:(I.of .u8 (n:Int)).val = (n % 256:Nat):=by
  show IntKind.u8.wrap (n:Int) = _
  simp only [IntKind.wrap,IntKind.bits,IntKind.signed,Bool.false_and,Bool.false_eq_true,if_false]
  omega
 unfold I.nat
 omega
theorem u8_ext {a b:I .u8} (h:I.nat a = I.nat b):a = b:=by
 have ha:=(u8_nat a).1
 have hb:=(u8_nat b).1
 exact I.ext' (by omega)
theorem of_natu8 (x:I .u8):I.of .u8 ((I.nat x:Nat):Int) = x:=u8_ext (by rw [of_u8n]; exact Nat.mod_eq_of_lt (u8_nat x).2)
theorem snoc_ind {X:Type} {P:List X→Prop} (h0:P []) (h1:∀ l b,P l→P (l ++ [b])) (l:List X):P l:=by
 have key:∀ m:List X,P m.reverse:=by
  intro m
  induction m with
  | nil=>exact h0
  | cons b m ih=>rw [List.reverse_cons]; exact h1 _ _ ih
 have:=key l.reverse
 rwa [List.reverse_reverse] at this
def be:Nat→Nat→Byt
 | 0,_=>[]
 | k + 1,v=>I.of .u8 ((v / 256 ^ k:Nat):Int) :: be k v
def unbe (l:Byt):Nat:=l.foldl (fun n b=>n * 256 + I.nat b) 0
theorem be_snoc:∀ k v,be (k + 1) v = be k (v / 256) ++ [I.of .u8 (v:Int)]
 | 0,v=>by show [I.of .u8 ((v / 256 ^ 0:Nat):Int)] = _; rw [Nat.pow_zero,Nat.div_one]; rfl
 | k + 1,v=>by
  show I.of .u8 ((v / 256 ^ (k + 1):Nat):Int) :: be (k + 1) v = (I.of .u8 ((v / 256 / 256 ^ k:Nat):Int) :: be k (v / 256)) ++ [I.of .u8 (v:Int)]
  rw [be_snoc k v,Nat.div_div_eq_div_mul,Nat.pow_succ,Nat.mul_comm 256 (256 ^ k)]
  rfl
theorem unbe_snoc (l:Byt) (b:I .u8):unbe (l ++ [b]) = unbe l * 256 + I.nat b:=by simp [unbe,List.foldl_append]
theorem unbe_lt (l:Byt):unbe l < 256 ^ l.length:=by
 refine snoc_ind (P:=fun l=>unbe l < 256 ^ l.length) (by decide) (fun l b ih=>?_) l
 ·
  rw [unbe_snoc,List.length_append,List.length_singleton,Nat.pow_succ]
  have:=(u8_nat b).2
  omega
theorem be_unbe (l:Byt):be l.length (unbe l) = l:=by
 refine snoc_ind (P:=fun l=>be l.length (unbe l) = l) rfl (fun l b ih=>?_) l
 ·
  have h:=(u8_nat b).2
  rw [List.length_append,List.length_singleton,be_snoc,unbe_snoc,show (unbe l * 256 + I.nat b) / 256 = unbe l by omega,ih]
  congr 2
  apply u8_ext
  rw [of_u8n]
  omega
theorem unbe_cons (b:I .u8) (l:Byt):unbe (b :: l) = I.nat b * 256 ^ l.length + unbe l:=by
 refine snoc_ind (P:=fun l=>unbe (b :: l) = I.nat b * 256 ^ l.length + unbe l) (by simp [unbe]) (fun l c ih=>?_) l
 ·
  rw [← List.cons_append,unbe_snoc,ih,unbe_snoc,List.length_append,List.length_singleton,Nat.pow_succ,Nat.add_mul,Nat.mul_assoc,Nat.add_assoc]
def nby (v:Nat):Nat:=if v = 0 then 0 else v.log2 / 8 + 1
theorem p256 (k:Nat):256 ^ k = 2 ^ (8 * k):=by rw [Nat.pow_mul]
theorem nby_lt (v:Nat):v < 256 ^ nby v:=by
 unfold nby
 by_cases h:v = 0
 ·
  rw [if_pos h,h]; decide
 ·
  rw [if_neg h,p256]
  exact Nat.lt_of_lt_of_le Nat.lt_log2_self (Nat.pow_le_pow_right (by decide) (by omega))
theorem nby_le {v:Nat} (h:v ≠ 0):256 ^ (nby v - 1) ≤ v:=by
 unfold nby
 rw [if_neg h,p256]
 exact Nat.le_trans (Nat.pow_le_pow_right (by decide) (by omega)) (Nat.log2_self_le h)
theorem nby_le_of {v k:Nat} (h:v < 256 ^ k):nby v ≤ k:=by
 by_cases hv:v = 0
 ·
  rw [hv]; exact Nat.zero_le _
 ·
  have h1:=nby_le hv
  have h2:256 ^ (nby v - 1) < 256 ^ k:=Nat.lt_of_le_of_lt h1 h
  have:=(Nat.pow_lt_pow_iff_right (by decide)).1 h2
  omega
theorem nby_eq {v k:Nat} (h1:256 ^ k ≤ v) (h2:v < 256 ^ (k + 1)):nby v = k + 1:=by
 have h3:=nby_le_of h2
 have h4:=nby_lt v
 have h5:256 ^ k < 256 ^ nby v:=Nat.lt_of_le_of_lt h1 h4
 have:=(Nat.pow_lt_pow_iff_right (by decide)).1 h5
 omega
def encV (v:Nat):Byt:=I.of .u8 ((nby v:Nat):Int) :: be (nby v) v
def atB (b:Byt) (i:Nat):Nat:=I.nat (rdL (I.of .u8 0) b i)
def rdU (b:Byt) (i m:Nat):Option (Nat × Nat) :=
 if i < b.length∧atB b i ≤ m∧atB b i ≤ b.length - i - 1∧(atB b i = 0 ∨ atB b (i + 1) ≠ 0) then some (unbe (subL b (i + 1) (atB b i)),i + 1 + atB b i) else none
def rdB (b:Byt) (i:Nat):Option (Byt × Nat) :=
 match rdU b i 8 with
 | none=>none
 | some (n,j)=>if n ≤ b.length - j then some (subL b j n,j + n) else none
theorem rdU_some {b:Byt} {i m n j:Nat} (h:rdU b i m = some (n,j)):i < j∧j ≤ b.length∧subL b i (j - i) = encV n∧n < 256 ^ m:=by
 unfold rdU at h
 split at h
 case isFalse=>cases h
 case isTrue hc =>
  obtain ⟨h1,h2,h3,h4⟩:=hc
  simp only [Option.some.injEq,Prod.mk.injEq] at h
  obtain ⟨e1,e2⟩:=h
  have hl:(subL b (i + 1) (atB b i)).length = atB b i:=by simp only [subL,List.length_take,List.length_drop]; omega
  have hlt:=unbe_lt (subL b (i + 1) (atB b i))
  rw [hl,e1] at hlt
  refine ⟨by omega,by omega,?_,Nat.lt_of_lt_of_le hlt (Nat.pow_le_pow_right (by decide) h2)⟩
  have hs:subL b i (j - i) = rdL (I.of .u8 0) b i :: subL b (i + 1) (atB b i):=by
   rw [rdL_eq _ _ _ h1,← e2,show i + 1 + atB b i - i = atB b i + 1 by omega]
   simp only [subL]
   rw [List.drop_eq_getElem_cons h1,List.take_succ_cons]
  have hn:nby n = atB b i:=by
   rcases Nat.eq_zero_or_pos (atB b i) with h0 | h0
   ·
    rw [h0] at hlt ⊢
    have:n = 0:=by rw [Nat.pow_zero] at hlt; omega
    rw [this]; rfl
   ·
    obtain ⟨k,hk⟩:∃ k,atB b i = k + 1:=⟨atB b i - 1,by omega⟩
    rw [hk] at hlt ⊢
    refine nby_eq ?_ hlt
    have h4 : atB b (i + 1) ≠ 0 := by rcases h4 with h4 | h4; · omega
                                      · exact h4
    have hq:subL b (i + 1) (atB b i) = rdL (I.of .u8 0) b (i + 1) :: subL b (i + 1 + 1) k:=by
     rw [rdL_eq _ _ _ (by omega),hk]
     simp only [subL]
     rw [List.drop_eq_getElem_cons (by omega),List.take_succ_cons]
    rw [hq,unbe_cons] at e1
    have hk2:(subL b (i + 1 + 1) k).length = k:=by simp only [subL,List.length_take,List.length_drop]; omega
    rw [hk2] at e1
    have:1 * 256 ^ k ≤ atB b (i + 1) * 256 ^ k:=Nat.mul_le_mul_right _ (by omega)
    unfold atB at this
    omega
  rw [hs]
  show _ = I.of .u8 ((nby n:Nat):Int) :: be (nby n) n
  rw [hn]
  congr 1
  ·
   exact (of_natu8 _).symm
  ·
   have:=be_unbe (subL b (i + 1) (atB b i))
   rw [hl,e1] at this
   exact this.symm
end Sym

/- What the wire's functions write, both programs'. -/
namespace Sym
open Go
theorem mul_i6 {n m:Nat} (h:n * m < 9223372036854775808) (hn:n < 9223372036854775808) (hm:m < 9223372036854775808):I.mul (i6 n) (i6 m) = i6 (n * m):=by
 apply I.ext'
 rw [mul_i64 (by rw [a1J hn,a1J hm,← Int.natCast_mul]; omega),a1J hn,a1J hm,a1J h,Int.natCast_mul]
theorem sel_nat (a:U) (q:Nat) (hq:q < 4):(Arr.sel (I.of .u64 0) 4 a q).nat = a.val / 18446744073709551616 ^ q % 18446744073709551616:=by
 obtain ⟨z0,z1,z2,z3,⟨⟩⟩:=a
 have:=a2B z0
 have:=a2B z1
 have:=a2B z2
 have:=a2B z3
 match q,hq with
 | 0,_=>show z0.nat = _; simp only [U.val,Nat.reducePow]; omega
 | 1,_=>show z1.nat = _; simp only [U.val,Nat.reducePow]; omega
 | 2,_=>show z2.nat = _; simp only [U.val,Nat.reducePow]; omega
 | 3,_=>show z3.nat = _; simp only [U.val,Nat.reducePow]; omega
theorem p64 (q:Nat):(18446744073709551616:Nat) ^ q = 256 ^ (8 * q):=by rw [Nat.pow_mul]
end Sym

/- Byte strings behind one another, both programs'; byte strings held against one another. -/
namespace Sym
open Go
end Sym

/- Loops side by side; the hash: both programs' blocks. -/
namespace Sym
open Go
section
variable {X Y R Z:Type} {rel:X→Y→Prop}
end
end Sym

/- Messages' leaves, roots and proofs of the reference: they end. -/
namespace Sym
open Go
abbrev Msg:Type:=a0H
end Sym

/- Proofs of the reference: they end. -/
namespace Sym
open Go
end Sym

/- The escrow of the reference, and what else a step calls. -/
namespace Sym
open Go
end Sym

/- Claims and parameters of the reference. -/
namespace Sym
open Go
abbrev Clm:Type:=S_api_Claim
def cSize (c:Clm):I .u64:=c.2.1
theorem conv_i6n {n:Nat} (h:n < 9223372036854775808):(I.conv (k:=.i64) .u64 (i6 n)) = I.of .u64 (n:Int):=by
 unfold I.conv
 rw [a1J h]
end Sym

/- What the wire's functions read, both programs': numbers. -/
namespace Sym
open Go
theorem updU_val (a:U) (q:Nat) (hq:q < 4) (z:I .u64):U.val (Arr.upd 4 a q z) + 18446744073709551616 ^ q * (Arr.sel (I.of .u64 0) 4 a q).nat = a.val + 18446744073709551616 ^ q * z.nat:=by
 obtain ⟨z0,z1,z2,z3,⟨⟩⟩:=a
 match q,hq with
 | 0,_=>show U.val (z,z1,z2,z3,()) + _ * z0.nat = _; simp only [U.val,Nat.reducePow]; omega
 | 1,_=>show U.val (z0,z,z2,z3,()) + _ * z1.nat = _; simp only [U.val,Nat.reducePow]; omega
 | 2,_=>show U.val (z0,z1,z,z3,()) + _ * z2.nat = _; simp only [U.val,Nat.reducePow]; omega
 | 3,_=>show U.val (z0,z1,z2,z,()) + _ * z3.nat = _; simp only [U.val,Nat.reducePow]; omega
theorem w64 (r:Nat) (h:r < 8):(18446744073709551616:Nat) = 256 ^ (r + 1) * 256 ^ (7 - r):=by
 rw [← Nat.pow_add,show r + 1 + (7 - r) = 8 by omega]
theorem sel_low {a:U} {w j:Nat} (ha:a.val = w * 256 ^ (j + 1)) (hj:j < 32) :
  (Arr.sel (I.of .u64 0) 4 a (j / 8)).nat % 256 ^ (j % 8 + 1) = 0∧∀ c,c < 256→(Arr.sel (I.of .u64 0) 4 a (j / 8)).nat + c * 256 ^ (j % 8) < 18446744073709551616:=by
 have hs:=sel_nat a (j / 8) (by omega)
 have hW:=w64 (j % 8) (by omega)
 have e:a.val / 18446744073709551616 ^ (j / 8) = w * 256 ^ (j % 8 + 1):=by
  rw [ha,p64,show j + 1 = 8 * (j / 8) + (j % 8 + 1) by omega,Nat.pow_add,← Nat.mul_assoc,Nat.mul_right_comm]
  exact Nat.mul_div_cancel _ (Nat.pow_pos (by decide))
 rw [e] at hs
 have h0:(Arr.sel (I.of .u64 0) 4 a (j / 8)).nat % 256 ^ (j % 8 + 1) = 0:=by
  rw [hs,hW,Nat.mod_mul_right_mod]
  exact Nat.mul_mod_left _ _
 refine ⟨h0,fun c hc=>?_⟩
 obtain ⟨u,hu⟩:=Nat.dvd_of_mod_eq_zero h0
 have hlt:=a2B (Arr.sel (I.of .u64 0) 4 a (j / 8))
 have hp:0 < 256 ^ (j % 8 + 1):=Nat.pow_pos (by decide)
 rw [hu] at hlt ⊢
 have hu2:u < 256 ^ (7 - j % 8):=by
  rw [hW] at hlt
  exact (Nat.mul_lt_mul_left hp).1 hlt
 have h1:c * 256 ^ (j % 8) < 256 ^ (j % 8 + 1):=by
  rw [Nat.pow_succ,Nat.mul_comm (256 ^ (j % 8))]
  exact Nat.mul_lt_mul_of_pos_right hc (Nat.pow_pos (by decide))
 have h2:256 ^ (j % 8 + 1) * (u + 1) ≤ 256 ^ (j % 8 + 1) * 256 ^ (7 - j % 8):=Nat.mul_le_mul_left _ hu2
 rw [← hW,Nat.mul_succ] at h2
 omega
theorem acc_step {a:U} {w c j:Nat} (ha:a.val = w * 256 ^ (j + 1)) (hc:c < 256) (hj:j < 32) (ht:(w * 256 + c) * 256 ^ j < U.top) {z:I .u64} (hz:z.nat = (Arr.sel (I.of .u64 0) 4 a (j / 8)).nat + c * 256 ^ (j % 8)) :
  Arr.upd 4 a (j / 8) z = U.of ((w * 256 + c) * 256 ^ j):=by
 refine U.ext ?_
 rw [U.val_of ht]
 have h:=updU_val a (j / 8) (by omega) z
 have e:18446744073709551616 ^ (j / 8) * (c * 256 ^ (j % 8)) = c * 256 ^ j:=by
  rw [p64,Nat.mul_left_comm,← Nat.pow_add,show 8 * (j / 8) + j % 8 = j by omega]
 rw [hz,Nat.mul_add,e,ha] at h
 have e2:(w * 256 + c) * 256 ^ j = w * 256 ^ (j + 1) + c * 256 ^ j:=by
  rw [Nat.add_mul,Nat.pow_succ,Nat.mul_assoc,Nat.mul_comm 256 (256 ^ j)]
 rw [e2]
 omega
theorem shl_byte (x:I .u8) {l:IntKind} (s:I l) (r:Nat) (hr:r < 8) (hs:s.val = ((8 * r:Nat):Int)):(I.shl (I.conv (k:=.u8) .u64 x) s).nat = I.nat x * 256 ^ r:=by
 have hx:=u8_nat x
 have hv:(I.conv (k:=.u8) .u64 x).val = x.val:=of_u64 (by omega)
 have hm:I.nat x * 256 ^ r < 18446744073709551616:=by
  have:256 ^ r ≤ 256 ^ 7:=Nat.pow_le_pow_right (by decide) (by omega)
  have:I.nat x * 256 ^ r ≤ 255 * 256 ^ 7:=Nat.mul_le_mul (by omega) this
  omega
 have:(I.shl (I.conv (k:=.u8) .u64 x) s).val = ((I.nat x * 256 ^ r:Nat):Int):=by
  show (I.of .u64 ((I.conv (k:=.u8) .u64 x).val * 2 ^ (min s.val.toNat 64))).val = _
  have e:min s.val.toNat 64 = 8 * r:=by omega
  rw [hv,e,← hx.1]
  have e2:((I.nat x:Int)) * 2 ^ (8 * r) = ((I.nat x * 256 ^ r:Nat):Int):=by
   rw [p256,Int.natCast_mul,Int.natCast_pow]; rfl
  rw [e2]
  exact of_u64 ⟨Int.natCast_nonneg _,Int.ofNat_lt.2 hm⟩
 have h2:=nat_val (I.shl (I.conv (k:=.u8) .u64 x) s)
 rw [this] at h2
 exact Int.ofNat.inj h2
theorem acc_or {a:U} {w j:Nat} (ha:a.val = w * 256 ^ (j + 1)) (hj:j < 32) (x:I .u8) (ht:(w * 256 + I.nat x) * 256 ^ j < U.top) {l:IntKind} (s:I l) (hs:s.val = ((8 * (j % 8):Nat):Int)) :
  Arr.upd 4 a (j / 8) (I.or (Arr.sel (I.of .u64 0) 4 a (j / 8)) (I.shl (I.conv (k:=.u8) .u64 x) s)) = U.of ((w * 256 + I.nat x) * 256 ^ j):=by
 have hx:=(u8_nat x).2
 have hy:=shl_byte x s (j % 8) (by omega) hs
 refine acc_step ha hx hj ht ?_
 rw [or_add _ _ (8 * (j % 8) + 8) ?_ ?_,hy]
 ·
  rw [hy,show 8 * (j % 8) + 8 = 8 * (j % 8 + 1) by omega,← p256,Nat.pow_succ,Nat.mul_comm (256 ^ (j % 8))]
  exact Nat.mul_lt_mul_of_pos_right hx (Nat.pow_pos (by decide))
 ·
  rw [show 8 * (j % 8) + 8 = 8 * (j % 8 + 1) by omega,← p256]
  exact (sel_low ha hj).1
theorem rdL_drop {X:Type} (d:X) (l:List X) (i j:Nat):rdL d (l.drop i) j = rdL d l (i + j):=by
 by_cases h:i + j < l.length
 ·
  rw [rdL_eq _ _ _ (by rw [List.length_drop]; omega),rdL_eq _ _ _ h,List.getElem_drop]
 ·
  rw [rdL_out _ _ _ (by rw [List.length_drop]; omega),rdL_out _ _ _ (by omega)]
theorem conv_u8 (x:I .u8):I.conv (k:=.u8) .i64 x = i6 (I.nat x):=by
 have hx:=u8_nat x
 apply I.ext'
 rw [a1J (by omega),hx.1]
 exact of_i64 (by omega)
theorem unbe_take (l:Byt) (q:Nat) (h:q < l.length):unbe (l.take (q + 1)) = unbe (l.take q) * 256 + atB l q:=by
 rw [List.take_succ_eq_append_getElem h,unbe_snoc]
 unfold atB
 rw [rdL_eq _ _ _ h]
noncomputable def rdO (o:Option (Nat × Nat)):U × I .i64 × I .i64 × Unit :=
 match o with
 | some (v,j)=>(U.of v,i6 j,i6 0,())
 | none=>(Z_U,i6 0,i6 3,())
theorem rdU_no {b:Byt} {i m:Nat} (h:¬ (i < b.length∧atB b i ≤ m∧atB b i ≤ b.length - i - 1∧(atB b i = 0 ∨ atB b (i + 1) ≠ 0))):rdO (rdU b i m) = (Z_U,i6 0,i6 3,()):=by
 unfold rdU
 rw [if_neg h]
 rfl
theorem rdU_yes {b:Byt} {i m:Nat} (h:i < b.length∧atB b i ≤ m∧atB b i ≤ b.length - i - 1∧(atB b i = 0 ∨ atB b (i + 1) ≠ 0)):rdO (rdU b i m) = (U.of (unbe ((b.drop (i + 1)).take (atB b i))),i6 (i + 1 + atB b i),i6 0,()):=by
 unfold rdU
 rw [if_pos h]
 rfl
theorem some_u {x y:U × I .i64 × I .i64 × Unit} (h:x = y):(some (x,()):Option ((U × I .i64 × I .i64 × Unit) × Unit)) = some (y,()):=by rw [h]
theorem top256:U.top = 256 ^ 32:=by decide
theorem wRead (b:Byt) (i m:Nat) (hi:i ≤ b.length) (hb:b.length ≤ 140737488355328) (hm:m ≤ 32):wire_readUint K0 ((b,(i6 i,(i6 m,()))),()) = some (rdO (rdU b i m),()):=by
 refine Wp.out (T:=fun o=>o = some (rdO (rdU b i m),())) ?_
 unfold wire_readUint
 have e0:I.of .i64 0 = i6 0:=rfl
 have e1:I.of .i64 1 = i6 1:=rfl
 have e8:I.of .i64 8 = i6 8:=rfl
 have hs1:subL b i (b.length - i) = b.drop i:=subL_drop b i
 have hs2:subL (b.drop i) 1 ((b.drop i).length - 1) = b.drop (i + 1):=by rw [subL_drop,List.drop_drop]
 refine Wp.jnI (Wp.brnF (niff_ltb.2 (by show (i6 0).val ≤ (i6 i).val; rw [a1J (by omega),a1J (by omega)]; omega)) (Wp.brnF (niff_ltb.2 (by show (i6 i).val ≤ (i6 b.length).val; rw [a1J (by omega),a1J (by omega)]; omega)) ?_))
 simp only [e0,e1,e8,lenL_eq,i6_ofNat,i6_nat (show i < 9223372036854775808 by omega),hs1,hs2,rdL_drop,Nat.add_zero]
 refine Wp.brnT (i6_inB' hi (by omega)) ?_
 have hl1:(b.drop i).length = b.length - i:=List.length_drop
 have hl2:(b.drop (i + 1)).length = b.length - (i + 1):=List.length_drop
 rw [hl1,hl2,i6_eqb (show b.length - i < 9223372036854775808 by omega) (show 0 < 9223372036854775808 by omega)]
 refine Wp.brn (fun hc=>?_) (fun hc=>?_)
 ·
  have hc:=of_decide_eq_true hc
  exact some_u (rdU_no (by omega)).symm
 have hc:=of_decide_eq_false hc
 have hk:=(u8_nat (rdL (I.of .u8 0) b i)).2
 refine Wp.brnT (i6_inB (by omega) (by omega)) (Wp.brnT (i6_inB' (by omega) (by omega)) (Wp.jnI ?_))
 rw [conv_u8,show I.nat (rdL (I.of .u8 0) b i) = atB b i from rfl] at *
 rw [i6_ltb (show m < 9223372036854775808 by omega) (show atB b i < 9223372036854775808 by omega),i6_ltb (show b.length - (i + 1) < 9223372036854775808 by omega) (show atB b i < 9223372036854775808 by omega),i6_ltb (show 0 < 9223372036854775808 by omega) (show atB b i < 9223372036854775808 by omega)]
 refine Wp.brn (fun h1=>?_) (fun h1=>?_)
 ·
  have h1:=of_decide_eq_true h1
  exact some_u (rdU_no (by omega)).symm
 have h1:=of_decide_eq_false h1
 refine Wp.brn (fun h2=>?_) (fun h2=>?_)
 ·
  have h2:=of_decide_eq_true h2
  exact some_u (rdU_no (by omega)).symm
 have h2:=of_decide_eq_false h2
 have loop : (i < b.length ∧ atB b i ≤ m ∧ atB b i ≤ b.length - i - 1 ∧ (atB b i = 0 ∨ atB b (i + 1) ≠ 0)) → Wp (fun o => o = some (rdO (rdU b i m), ())) (iter (none) (fun (x2 : (((I .i64) × ((List (I .u8)) × ((I .i64) × ((I .i64) × ((I .i64) × Unit))))) × (U × (U × Unit)))) =>
          brn (@I.ltb .i64 x2.1.2.2.2.2.1 x2.1.2.2.2.1)
           (brn (@inB .i64 (@I.quo .i64 (@I.sub .i64 (@I.sub .i64 x2.1.2.2.1 (i6 1)) x2.1.2.2.2.2.1) (i6 8)) 4)
            (brn (@inB .i64 x2.1.2.2.2.2.1 (x2.1.2.1.length))
             (brn (@I.nn .i64 (@I.mul .i64 (i6 8) (@I.rem .i64 (@I.sub .i64 (@I.sub .i64 x2.1.2.2.1 (i6 1)) x2.1.2.2.2.2.1) (i6 8))))
              (brn (@inB .i64 (@I.quo .i64 (@I.sub .i64 (@I.sub .i64 x2.1.2.2.1 (i6 1)) x2.1.2.2.2.2.1) (i6 8)) 4)
               (.again ((x2.1.1,(x2.1.2.1,(x2.1.2.2.1,(x2.1.2.2.2.1,((@I.add .i64 x2.1.2.2.2.2.1 (i6 1)),()))))),(x2.2.1,((@Arr.upd (I .u64) 4 x2.2.2.1 (@I.nat .i64 (@I.quo .i64 (@I.sub .i64 (@I.sub .i64 x2.1.2.2.1 (i6 1)) x2.1.2.2.2.2.1) (i6 8))) (@I.or .u64 (@Arr.sel (I .u64) (I.of .u64 0) 4 x2.2.2.1 (@I.nat .i64 (@I.quo .i64 (@I.sub .i64 (@I.sub .i64 x2.1.2.2.1 (i6 1)) x2.1.2.2.2.2.1) (i6 8)))) (@I.shl .u64 .i64 (I.conv (k:=.u8) .u64 (@rdL (I .u8) (I.of .u8 0) x2.1.2.1 (@I.nat .i64 x2.1.2.2.2.2.1))) (@I.mul .i64 (i6 8) (@I.rem .i64 (@I.sub .i64 (@I.sub .i64 x2.1.2.2.1 (i6 1)) x2.1.2.2.2.2.1) (i6 8)))))),()))))
               (.done (none)))
              (.done (none)))
             (.done (none)))
            (.done (none)))
           (.done (some ((x2.2.2.1,((@I.add .i64 (@I.add .i64 x2.1.1 (i6 1)) x2.1.2.2.1),((i6 0),()))),()))))
        K0 ((i6 i,(b.drop (i + 1),(i6 (atB b i),(i6 (atB b i),(i6 0,()))))),(Z_U,(Z_U,())))):=by
  intro hy
  have hk32:atB b i ≤ 32:=by omega
  refine Wp.iter (fun x=>∃ q,q ≤ atB b i∧x = ((i6 i,(b.drop (i + 1),(i6 (atB b i),(i6 (atB b i),(i6 q,()))))),(Z_U,(U.of (unbe ((b.drop (i + 1)).take q) * 256 ^ (atB b i - q)),())))) (fun x=>atB b i - x.1.2.2.2.2.1.val.toNat) ?_ ⟨0,Nat.zero_le _,?_⟩ (by rw [K0_eq]; show atB b i - 0 < _; omega)
  case refine_2 =>
   have:unbe ((b.drop (i + 1)).take 0) * 256 ^ (atB b i - 0) = 0:=by rw [List.take_zero]; exact Nat.zero_mul _
   rw [this]
   rfl
  rintro x ⟨q,hq,rfl⟩
  simp only [i6_ltb (show q < 9223372036854775808 by omega) (show atB b i < 9223372036854775808 by omega)]
  refine Wp.brn (fun h3=>?_) (fun h3=>?_)
  ·
   have h3:=of_decide_eq_true h3
   obtain ⟨j,hj⟩:∃ j,atB b i - 1 - q = j:=⟨_,rfl⟩
   have hj32:j < 32:=by omega
   have hq8:8 * (j % 8) < 9223372036854775808:=by omega
   simp only [i6_sub (show atB b i < 9223372036854775808 by omega) (show 1 ≤ atB b i by omega),i6_sub (show atB b i - 1 < 9223372036854775808 by omega) (show q ≤ atB b i - 1 by omega),hj,quo_i6 (show j < 9223372036854775808 by omega) (show 0 < 8 by omega) (by omega),rem_i6 (show j < 9223372036854775808 by omega) (show 0 < 8 by omega) (by omega),mul_i6 hq8 (by omega) (by omega),i6_nat (show j / 8 < 9223372036854775808 by omega),i6_nat (show q < 9223372036854775808 by omega)]
   refine Wp.brnT (i6_inB (by omega) (by omega)) (Wp.brnT (i6_inB (by rw [hl2]; omega) (by omega)) (Wp.brnT (iff_nn.2 (by rw [a1J hq8]; omega)) (Wp.brnT (i6_inB (by omega) (by omega)) (Wp.again ⟨q + 1,h3,?_⟩ ?_))))
   ·
    have hw:=unbe_lt ((b.drop (i + 1)).take (q + 1))
    rw [List.length_take,hl2,Nat.min_eq_left (by omega),unbe_take _ _ (by rw [hl2]; omega)] at hw
    have ht:(unbe ((b.drop (i + 1)).take q) * 256 + atB (b.drop (i + 1)) q) * 256 ^ j < U.top:=by
     rw [top256]
     have h4:(unbe ((b.drop (i + 1)).take q) * 256 + atB (b.drop (i + 1)) q) * 256 ^ j < 256 ^ (q + 1) * 256 ^ j:=Nat.mul_lt_mul_of_pos_right hw (Nat.pow_pos (by decide))
     rw [← Nat.pow_add] at h4
     exact Nat.lt_of_lt_of_le h4 (Nat.pow_le_pow_right (by decide) (by omega))
    have hv:(U.of (unbe ((b.drop (i + 1)).take q) * 256 ^ (atB b i - q))).val = unbe ((b.drop (i + 1)).take q) * 256 ^ (j + 1):=by
     rw [show atB b i - q = j + 1 by omega,U.val_of]
     refine Nat.lt_of_le_of_lt ?_ ht
     rw [Nat.pow_succ,Nat.mul_comm (256 ^ j),← Nat.mul_assoc]
     exact Nat.mul_le_mul_right _ (Nat.le_add_right _ _)
    have h5:=acc_or hv hj32 (rdL (I.of .u8 0) (b.drop (i + 1)) q) ht (i6 (8 * (j % 8))) (a1J hq8)
    rw [show atB b i - (q + 1) = j by omega,unbe_take _ _ (by rw [hl2]; omega)]
    show ((i6 i,(b.drop (i + 1),(i6 (atB b i),(i6 (atB b i),(I.add (i6 q) (i6 1),()))))),(Z_U,(_,()))) = _
    rw [i6_add (by omega)]
    exact congrArg (fun z=>((i6 i,(b.drop (i + 1),(i6 (atB b i),(i6 (atB b i),(i6 (q + 1),()))))),(Z_U,(z,())))) h5
   ·
    show atB b i - (I.add (i6 q) (i6 1)).val.toNat < atB b i - (i6 q).val.toNat
    rw [i6_add (by omega),a1J (by omega),a1J (by omega)]; omega
  ·
   have h3:=of_decide_eq_false h3
   have hqk:q = atB b i:=by omega
   refine Wp.done ?_
   rw [rdU_yes hy,hqk,Nat.sub_self,Nat.pow_zero,Nat.mul_one]
   show some ((_,(I.add (I.add (i6 i) (i6 1)) (i6 (atB b i)),(i6 0,()))),()) = _
   rw [i6_add (by omega),i6_add (by omega)]
 refine Wp.brn (fun h3=>?_) (fun h3=>?_)
 ·
  have h3:=of_decide_eq_true h3
  refine Wp.brnT (i6_inB (by omega) (by omega)) (Wp.brn (fun h4=>?_) (fun h4=>?_))
  ·
   have h4:=I.eq_of h4
   have:atB b (i + 1) = 0:=by unfold atB; rw [h4]; rfl
   exact some_u (rdU_no (by omega)).symm
  ·
   have h4:=niff_eqb.1 h4
   have:atB b (i + 1) ≠ 0:=fun h=>h4 (by
    have:=(u8_nat (rdL (I.of .u8 0) b (i + 1))).1
    unfold atB at h
    show (rdL (I.of .u8 0) b (i + 1)).val = 0
    omega)
   exact loop (by omega)
 ·
  have h3:=of_decide_eq_false h3
  exact loop (by omega)
end Sym

/- What the reference reads; byte strings read, both programs'. -/
namespace Sym
open Go
noncomputable def rdP (o:Option (Byt × Nat)):Byt × I .i64 × I .i64 × Unit :=
 match o with
 | some (x,j)=>(x,i6 j,i6 0,())
 | none=>([],i6 0,i6 3,())
theorem u64_len {n v:Nat} (hn:n < 9223372036854775808) (hv:v < 18446744073709551616):I.ltb (I.conv (k:=.i64) .u64 (i6 n)) (I.of .u64 ((v % 18446744073709551616:Nat):Int)) = decide (n < v):=by
 have h1:(I.conv (k:=.i64) .u64 (i6 n)).val = (n:Int):=by
  show (I.of .u64 (i6 n).val).val = _
  rw [a1J hn,of_u64 (by omega)]
 have h2:(I.of .u64 ((v % 18446744073709551616:Nat):Int)).val = (v:Int):=by rw [Nat.mod_eq_of_lt hv,of_u64 (by omega)]
 by_cases h:n < v
 ·
  rw [decide_eq_true h]; exact iff_ltb.2 (by omega)
 ·
  rw [decide_eq_false h]; exact niff_ltb.2 (by omega)
theorem conv_len {v:Nat} (hv:v < 9223372036854775808):I.conv (k:=.u64) .i64 (I.of .u64 ((v % 18446744073709551616:Nat):Int)) = i6 v:=by
 apply I.ext'
 show (I.of .i64 (I.of .u64 ((v % 18446744073709551616:Nat):Int)).val).val = _
 rw [Nat.mod_eq_of_lt (by omega),of_u64 (by omega)]
 rfl
theorem rdB_none {b:Byt} {i:Nat} (h:rdU b i 8 = none):rdB b i = none:=by unfold rdB; rw [h]
theorem rdB_no {b:Byt} {i v j:Nat} (h:rdU b i 8 = some (v,j)) (h2:¬ v ≤ b.length - j):rdB b i = none:=by unfold rdB; rw [h]; exact if_neg h2
theorem rdB_yes {b:Byt} {i v j:Nat} (h:rdU b i 8 = some (v,j)) (h2:v ≤ b.length - j):rdB b i = some (subL b j v,j + v):=by unfold rdB; rw [h]; exact if_pos h2
theorem wReadB (b:Byt) (i:Nat) (hi:i ≤ b.length) (hb:b.length ≤ 1073741824):wire_ReadBytes K0 ((b,(i6 i,())),()) = some (rdP (rdB b i),()):=by
 refine Wp.out (T:=fun o=>o = some (rdP (rdB b i),())) ?_
 unfold wire_ReadBytes
 have hr:=wRead b i 8 hi (by omega) (by omega)
 have hu:wire_ReadUint64 K0 ((b,(i6 i,())),()) = some (((rdO (rdU b i 8)).1.1,((rdO (rdU b i 8)).2.1,((rdO (rdU b i 8)).2.2.1,()))),()):=by
  unfold wire_ReadUint64
  exact Wp.out (T:=fun o=>o = _) (Wp.optF hr rfl)
 refine Wp.optF hu ?_
 have e0:I.of .i64 0 = i6 0:=rfl
 have e3:I.of .i64 3 = i6 3:=rfl
 simp only [e0,e3,lenL_eq,i6_ofNat]
 cases hU:rdU b i 8 with
 | none =>
  refine Wp.brnT (by show I.neb (i6 3) (i6 0) = true; rw [i6_neb (by omega) (by omega)]; rfl) ?_
  rw [rdB_none hU]
  rfl
 | some y =>
  obtain ⟨v,j⟩:=y
  obtain ⟨h1,h2,_,h4⟩:=rdU_some hU
  refine Wp.brnF (by show I.neb (i6 0) (i6 0) = false; rw [i6_neb (by omega) (by omega)]; rfl) ?_
  simp only [rdO,U.of,i6_sub (show b.length < 9223372036854775808 by omega) h2,u64_len (show b.length - j < 9223372036854775808 by omega) (show v < 18446744073709551616 by omega)]
  refine Wp.brn (fun h5=>?_) (fun h5=>?_)
  ·
   have h5:=of_decide_eq_true h5
   rw [rdB_no hU (by omega)]
   rfl
  have h5:=of_decide_eq_false h5
  simp only [conv_len (show v < 9223372036854775808 by omega),i6_add (show j + v < 9223372036854775808 by omega),i6_nat (show j < 9223372036854775808 by omega),i6_nat (show j + v < 9223372036854775808 by omega),show j + v - j = v by omega]
  have hl:(subL b j v).length = v:=by simp only [subL,List.length_take,List.length_drop]; omega
  refine Wp.brnT (i6_inB' (by omega) (by omega)) (Wp.brnT (i6_inB' (by omega) (by omega)) ?_)
  refine Wp.optF (y:=((subL b j v,()),())) ?_ ?_
  ·
   show brn (a1Z (a1I (subL b j v))) _ _ = _
   rw [fits_le (by rw [lenL_eq,hl]; omega)]
   rfl
  ·
   rw [rdB_yes hU (by omega)]
   rfl
end Sym

/- Lists of byte strings decoded, both programs'; the laws. -/
namespace Sym
open Go
end Sym

/- Steps written, both programs'. -/
namespace Sym
open Go
end Sym

/- A step written, both programs'; a list of steps. -/
namespace Sym
open Go
end Sym

/- Trees and messages' leaves: both programs'. -/
namespace Sym
open Go
end Sym

/- Tables sorted by key: written, read, searched. -/
namespace Sym
open Go
section
variable {Y:Type} (z:Y) (e:I .u64 × Y→Bool)
def Srt (l:List (I .u64 × Y)):Prop:=l.Pairwise fun x y=>x.1.val < y.1.val
def loR (l:List (I .u64 × Y)) (a:I .u64):Nat :=
 match l with
 | []=>0
 | x :: l=>if x.1.val < a.val then loR l a + 1 else 0
def fndR (l:List (I .u64 × Y)) (a:I .u64):Bool :=
 match l with
 | []=>false
 | x :: l=>if x.1.val < a.val then fndR l a else decide (x.1.val = a.val)
def getR (l:List (I .u64 × Y)) (a:I .u64):I .u64 × Y :=
 match l with
 | []=>(a,z)
 | x :: l=>if x.1.val = a.val then x else getR l a
def insR (l:List (I .u64 × Y)) (x:I .u64 × Y):List (I .u64 × Y) :=
 match l with
 | []=>if e x then [] else [x]
 | y :: l=>if y.1.val < x.1.val then y :: insR l x else if y.1.val = x.1.val then (if e x then l else x :: l) else if e x then y :: l else x :: y :: l
variable {e}
theorem loR_le:∀ (l:List (I .u64 × Y)) a,loR l a ≤ l.length
 | [],_=>Nat.le_refl _
 | x :: l,a=>by have:=loR_le l a; unfold loR; split <;> simp <;> omega
theorem loR_lt (d:I .u64 × Y):∀ (l:List (I .u64 × Y)) a k,k < loR l a→(rdL d l k).1.val < a.val
 | [],a,k,h=>by simp [loR] at h
 | x :: l,a,k,h=>by
  unfold loR at h
  split at h
  ·
   cases k with
   | zero=>assumption
   | succ k=>exact loR_lt d l a k (by omega)
  ·
   omega
theorem loR_ge (d:I .u64 × Y):∀ (l:List (I .u64 × Y)) a k,Srt l→loR l a ≤ k→k < l.length→a.val ≤ (rdL d l k).1.val
 | [],a,k,_,_,h=>by simp at h
 | x :: l,a,k,hs,h,hk=>by
  have hs:=List.pairwise_cons.1 hs
  unfold loR at h
  split at h
  ·
   cases k with
   | zero=>omega
   | succ k=>exact loR_ge d l a k hs.2 (by omega) (by simpa using hk)
  ·
   cases k with
   | zero=>show a.val ≤ x.1.val; omega
   | succ k =>
    have:=hs.1 _ (rdL_mem d l k (by simpa using hk))
    show a.val ≤ (rdL d l k).1.val
    omega
theorem fndR_eq (d:I .u64 × Y):∀ (l:List (I .u64 × Y)) a,fndR l a = decide (loR l a < l.length∧(rdL d l (loR l a)).1.val = a.val)
 | [],a=>by simp [fndR]
 | x :: l,a=>by
  have:=fndR_eq d l a
  unfold fndR loR
  split
  ·
   rw [this]; simp [rdL]
  ·
   simp [rdL]
theorem getR_no:∀ (l:List (I .u64 × Y)) a,(∀ x ∈ l,a.val < x.1.val)→getR z l a = (a,z)
 | [],_,_=>rfl
 | x :: l,a,h=>by
  have:=h x (by simp)
  unfold getR
  rw [if_neg (by omega)]
  exact getR_no l a fun y hy=>h y (by simp [hy])
theorem getR_eq (d:I .u64 × Y):∀ (l:List (I .u64 × Y)) a,Srt l→getR z l a = if fndR l a then rdL d l (loR l a) else (a,z)
 | [],a,_=>rfl
 | x :: l,a,hs=>by
  have hs:=List.pairwise_cons.1 hs
  have ih:=getR_eq d l a hs.2
  unfold getR fndR loR
  by_cases h:x.1.val < a.val
  ·
   rw [if_neg (by omega),if_pos h,if_pos h]; exact ih
  ·
   rw [if_neg h,if_neg h]
   by_cases h2:x.1.val = a.val
   ·
    rw [if_pos h2,decide_eq_true h2]; rfl
   ·
    rw [if_neg h2,decide_eq_false h2]
    exact getR_no z l a fun y hy=>by have:=hs.1 y hy; omega
theorem insR_mem:∀ (l:List (I .u64 × Y)) x y,y ∈ insR e l x→y = x∧e x = false ∨ y ∈ l
 | [],x,y,h=>by unfold insR at h; grind
 | w :: l,x,y,h=>by have:=insR_mem l x y; unfold insR at h; grind
theorem insR_srt:∀ (l:List (I .u64 × Y)) x,Srt l→Srt (insR e l x)
 | [],x,_=>by unfold insR Srt; split <;> simp
 | w :: l,x,hs=>by
  have hs:=List.pairwise_cons.1 hs
  have ih:=insR_srt l x hs.2
  have hm:=insR_mem (e:=e) l x
  unfold Srt at *
  unfold insR
  split
  ·
   refine List.pairwise_cons.2 ⟨fun y hy=>?_,ih⟩
   rcases hm y hy with h | h
   ·
    rw [h.1]; assumption
   ·
    exact hs.1 y h
  ·
   split
   ·
    split
    ·
     exact hs.2
    ·
     exact List.pairwise_cons.2 ⟨fun y hy=>by have:=hs.1 y hy; omega,hs.2⟩
   ·
    split
    ·
     exact List.pairwise_cons.2 hs
    ·
     refine List.pairwise_cons.2 ⟨fun y hy=>?_,List.pairwise_cons.2 hs⟩
     rcases List.mem_cons.1 hy with h | h
     ·
      rw [h]; omega
     ·
      have:=hs.1 y h; omega
theorem insR_get:∀ (l:List (I .u64 × Y)) x a,Srt l→getR z (insR e l x) a = if a.val = x.1.val then (if e x then (a,z) else x) else getR z l a
 | [],x,a,_=>by unfold insR getR; grind [getR]
 | w :: l,x,a,hs=>by
  have hs:=List.pairwise_cons.1 hs
  have ih:=insR_get l x a hs.2
  have hn:=getR_no z l a
  unfold insR
  grind [getR]
theorem insR_len:∀ (l:List (I .u64 × Y)) x,(insR e l x).length ≤ l.length + 1
 | [],x=>by unfold insR; split <;> simp
 | w :: l,x=>by have:=insR_len l x; unfold insR; grind
theorem insR_sum (f:I .u64 × Y→Nat) (hz:∀ a,f (a,z) = 0) (he:∀ x,e x = true→f x = 0):∀ (l:List (I .u64 × Y)) x,Srt l→((insR e l x).map f).sum + f (getR z l x.1) = (l.map f).sum + f x
 | [],x,_=>by unfold insR getR; grind
 | w :: l,x,hs=>by
  have hs:=List.pairwise_cons.1 hs
  have ih:=insR_sum f hz he l x hs.2
  have hn:=getR_no z l x.1
  unfold insR getR
  grind
theorem insR_del (l:List (I .u64 × Y)) (x:I .u64 × Y) (he:e x = true):fndR l x.1 = true→insR e l x = l.take (loR l x.1) ++ l.drop (loR l x.1 + 1):=by
 induction l with
 | nil=>intro h; cases h
 | cons w l ih =>
  unfold insR fndR loR
  by_cases h:w.1.val < x.1.val
  ·
   simp only [if_pos h]; intro h2; rw [ih h2]; rfl
  ·
   simp only [if_neg h]; intro h2; rw [if_pos (of_decide_eq_true h2),if_pos he]; rfl
theorem insR_set (l:List (I .u64 × Y)) (x:I .u64 × Y) (he:e x = false):fndR l x.1 = true→insR e l x = setL l (loR l x.1) x:=by
 induction l with
 | nil=>intro h; cases h
 | cons w l ih =>
  unfold insR fndR loR
  by_cases h:w.1.val < x.1.val
  ·
   simp only [if_pos h]; intro h2; rw [ih h2]; rfl
  ·
   simp only [if_neg h]; intro h2; rw [if_pos (of_decide_eq_true h2),if_neg (by rw [he]; decide)]; rfl
theorem insR_new (l:List (I .u64 × Y)) (x:I .u64 × Y):fndR l x.1 = false→insR e l x = if e x then l else l.take (loR l x.1) ++ [x] ++ l.drop (loR l x.1):=by
 induction l with
 | nil=>intro _; rfl
 | cons w l ih =>
  unfold insR fndR loR
  by_cases h:w.1.val < x.1.val
  ·
   simp only [if_pos h]; intro h2; rw [ih h2]; split <;> rfl
  ·
   simp only [if_neg h]; intro h2; rw [if_neg (of_decide_eq_false h2)]; split <;> rfl
end
end Sym

/- The machine of the reference. -/
namespace Sym
open Go
end Sym

/- The machine of the reference: transactions. -/
namespace Sym
open Go
abbrev Rcp:Type:=S_api_Receipt
abbrev Txn:Type:=S_api_Transaction
abbrev Chg:Type:=S_api_Charge
def tVal (t:Txn):U:=t.2.2.2.1
def tLim (t:Txn):I .u64:=t.2.2.2.2.1
def tCap (t:Txn):U:=t.2.2.2.2.2.1
def tTip (t:Txn):U:=t.2.2.2.2.2.2.1
def tEx (t:Txn):I .u64:=t.2.2.2.2.2.2.2.1
def tData (t:Txn):List (I .u8):=t.2.2.2.2.2.2.2.2.1
def bFee (k:Blk0):U:=k.2.2.2.1
theorem bntT {b:Bool} (h:bnot b = true):b = false:=by cases b <;> simp [bnot] at h ⊢
theorem bntF {b:Bool} (h:bnot b = false):b = true:=by cases b <;> simp [bnot] at h ⊢
end Sym

/- The pricer's tables stay small. -/
namespace Sym
open Go
end Sym

/- The machine of the reference: what a transaction does. -/
namespace Sym
open Go
noncomputable abbrev zChg:Chg:=a0R
noncomputable def errR (e:I .i64):Rcp:=(I.of .i64 0,(e,(zChg,(Z_U,(Z_U,(I.of .u64 0,(Z_U,(Z_U,([],())))))))))
end Sym

/- The machine of the reference: reports. -/
namespace Sym
open Go
end Sym

/- The machine of the reference: the other steps; a step. -/
namespace Sym
open Go
end Sym

/- The machine's lists stay small. -/
namespace Sym
open Go
end Sym

/- Steps that a number determines: they exist, and are small. -/
namespace Sym
open Go
end Sym

/- Steps that a number determines, continued. -/
namespace Sym
open Go
end Sym

/- A run's next step; a run. -/
namespace Sym
open Go
end Sym

/- A run of the reference. -/
namespace Sym
open Go
end Sym

/- Audit: totals. -/
namespace Sym
open Go
end Sym

/- Audit: the program's totals. -/
namespace Sym
open Go
end Sym

/- Audit: the reference's totals. -/
namespace Sym
open Go
end Sym

/- Audit: the reference's totals, told as the program's. -/
namespace Sym
open Go
end Sym

/- From what a row reads of the arguments to plain values, and from a contract to the row's answer. -/
namespace Sym
open Go
mutual
def argB (P:Program):Ty→TypeId→Bool
 | .cons a b,id=>match P.underlying id with
  | some (.struct fs)=>(match fs.toList with
   | f :: r=>argB P a f.type && fargB P b r
   | []=>false)
  | _=>false
 | .arr _ t,id=>match P.underlying id with
  | some (.array _ e)=>argB P t e
  | _=>false
 | .sl t,id=>match P.underlying id with
  | some (.slice e)=>Nat.ble 1 t.sz && (Nat.ble 1 (P.bytesOf e) && argB P t e)
  | _=>false
 | .opq,_=>false
 | .fnc,_=>false
 | _,_=>true
def fargB (P:Program):Ty→List Field→Bool
 | .cons a b,f :: r=>argB P a f.type && fargB P b r
 | _,_=>true
end
theorem mapM_some {X Y:Type} {f:X→Option Y}:∀ {l:List X} {r:List Y},l.mapM f = some r→r.length = l.length∧∀ (i:Nat) (a:X),l[i]? = some a→∃ b,r[i]? = some b∧f a = some b
 | [],r,h=>by
  simp only [List.mapM_nil,Option.pure_def,Option.some.injEq] at h
  subst h
  exact ⟨rfl,fun i a h=>by simp at h⟩
 | a :: l,r,h=>by
  simp only [List.mapM_cons,Option.bind_eq_bind,Option.bind_eq_some_iff,Option.pure_def,Option.some.injEq] at h
  obtain ⟨b,hb,s,hs,rfl⟩:=h
  obtain ⟨h1,h2⟩:=mapM_some hs
  refine ⟨by simp [h1],fun i x hx=>?_⟩
  cases i with
  | zero =>
   simp only [List.getElem?_cons_zero,Option.some.injEq] at hx
   subst hx
   exact ⟨b,by simp,hb⟩
  | succ i =>
   simp only [List.getElem?_cons_succ] at hx
   obtain ⟨y,h3,h4⟩:=h2 i x hx
   exact ⟨y,by simp [h3],h4⟩
theorem mapM_range {Y:Type} {f:Nat→Option Y} {n:Nat} {r:List Y} (h:(List.range n).mapM f = some r):r.length = n∧∀ i,i < n→∃ b,r[i]? = some b∧f i = some b:=by
 obtain ⟨h1,h2⟩:=mapM_some h
 refine ⟨by simpa using h1,fun i hi=>h2 i i (by simp [hi])⟩
theorem exists_list {X:Type}:∀ (n:Nat) (R:Nat→X→Prop),(∀ i,i < n→∃ x,R i x)→∃ l:List X,l.length = n∧∀ i x,l[i]? = some x→R i x
 | 0,_,_=>⟨[],rfl,fun i x h=>by simp at h⟩
 | n + 1,R,h=>by
  obtain ⟨x,hx⟩:=h 0 (by omega)
  obtain ⟨l,h1,h2⟩:=exists_list n (fun i x=>R (i + 1) x) fun i hi=>h (i + 1) (by omega)
  refine ⟨x :: l,by simp [h1],fun i y hy=>?_⟩
  cases i with
  | zero=>simp only [List.getElem?_cons_zero,Option.some.injEq] at hy; subst hy; exact hx
  | succ i=>exact h2 i y (by simpa using hy)
theorem exists_arr {X:Type} {E:X→List Value→Prop} {s:Nat}:∀ (n:Nat) (cs:List Value),cs.length = n * s→(∀ i,i < n→∃ x,E x ((cs.drop (i * s)).take s))→∃ x,EncArr E n x cs
 | 0,cs,hl,_=>⟨(),by simp at hl; exact hl⟩
 | n + 1,cs,hl,h=>by
  obtain ⟨x,hx⟩:=h 0 (by omega)
  simp only [Nat.zero_mul,List.drop_zero] at hx
  obtain ⟨y,hy⟩:=exists_arr (E:=E) (s:=s) n (cs.drop s) (by rw [List.length_drop,hl,Nat.succ_mul]; omega) fun i hi=>by
   obtain ⟨z,hz⟩:=h (i + 1) (by omega)
   refine ⟨z,?_⟩
   rw [List.drop_drop,show s + i * s = (i + 1) * s by rw [Nat.succ_mul]; omega]
   exact hz
  exact ⟨(x,y),cs.take s,cs.drop s,(List.take_append_drop s cs).symm,hx,hy⟩
theorem weightsAll_mem {H:Type} {P:Program} {e:TypeId}:∀ {ds:List (DataW H)} {i:Nat} {d:DataW H},ds[i]? = some d→∀ n ∈ d.weights P e,n ∈ DataW.weightsAll P e ds
 | d0 :: ds,0,d,hd,n,hn=>by
  simp only [List.getElem?_cons_zero,Option.some.injEq] at hd
  subst hd
  simp only [DataW.weightsAll,List.mem_append]
  exact .inl hn
 | d0 :: ds,i + 1,d,hd,n,hn=>by
  simp only [List.getElem?_cons_succ] at hd
  simp only [DataW.weightsAll,List.mem_append]
  exact .inr (weightsAll_mem hd n hn)
def strOf (s:ByteArray):List (I .u8):=s.data.toList.map fun b=>I.of .u8 b.toNat
theorem bytesOf_strOf (s:ByteArray):bytesOf (strOf s) = s:=by
 unfold bytesOf strOf
 cases s with | mk a =>
 congr 1
 rw [List.map_map]
 have:((fun c:I .u8=>UInt8.ofNat c.val.toNat) ∘ fun b:UInt8=>I.of .u8 b.toNat) = id:=by
  funext b
  simp only [Function.comp,id,I.of,IntKind.wrap,IntKind.bits,IntKind.signed,Bool.false_and,Bool.false_eq_true,if_false]
  have:=b.toNat_lt
  rw [show ((b.toNat:Int) % 2 ^ 8) = (b.toNat:Int) by omega,Int.toNat_natCast]
  exact UInt8.ofNat_toNat
 rw [this,List.map_id,Array.toArray_toList]
section
variable {H:Type} {enc:TypeId × Value→H} {P:Program} {W:World} {base:Nat} {spare:Nat→Bool} {held:Bool}
abbrev GW (W:World):Nat→Prop:=fun r=>r < W.heap.size
theorem cell_lt {a:Addr} {v:Value} (h:W.cell? a = some v):a.spot = none∧a.block < W.heap.size:=by
 unfold World.cell? at h
 split at h
 ·
  rename_i c _ _ hc
  split at h
  ·
   cases h
  ·
   rename_i hs
   refine ⟨by simpa using hs,?_⟩
   rw [Array.getElem?_eq_some_iff] at hc
   exact hc.1
 ·
  cases h
theorem cells_row {base:Nat} {a:Addr} {n:Nat} {ds:List Value} (h:W.cells? base a n = some ds):ds.length = n∧∀ j d,ds[j]? = some d→W.cell? (a.add j) = some d:=by
 unfold World.cells? at h
 split at h
 ·
  obtain ⟨h1,h2⟩:=mapM_range h
  refine ⟨h1,fun j d hd=>?_⟩
  obtain ⟨b,h3,h4⟩:=h2 j (by rw [← h1]; exact (List.getElem?_eq_some_iff.1 hd).1)
  rw [h3] at hd
  rw [h4,hd]
 ·
  cases h
theorem addr_add {a:Addr} (hs:a.spot = none) (n:Nat):a.add n = ⟨a.block,a.off + n,none⟩:=by
 unfold Addr.add
 cases a
 simp only at hs
 subst hs
 split
 ·
  rename_i h; subst h; rfl
 ·
  rfl
theorem enc_of_trod:∀ (t:Ty),
  (∀ fuel id cs (d:DataW H) (p:List MemPlace),TOk P t id→argB P t id = true→DataW.trod enc P W base spare held fuel id cs = some (d,p)→(∀ n ∈ d.weights P id,n ≤ reachBytes)→∃ x,Enc W (GW W) t x cs) ∧
  (∀ fuel (r:List Field) (o:Nat) (cs:List Value) (xs:List (DataW H × List MemPlace)),FOk P t r o→fargB P t r = true→xs.length = r.length →
   (∀ (i:Nat) (f:Field),r[i]? = some f→DataW.trod enc P W base spare held fuel f.type ((cs.drop f.offset).take (P.cellsOf f.type)) = xs[i]?) →
   (∀ n ∈ DataW.weightsEach P (r.map (·.type)) (xs.map (·.1)),n ≤ reachBytes)→cs.length = o + t.sz→∃ x,Enc W (GW W) t x (cs.drop o)):=by
 intro t
 have nofld:∀ t,(∀ a b,t ≠ .cons a b)→t ≠ .nil→∀ (r:List Field) (o:Nat),¬ FOk P t r o:=by
  intro t h1 h2 r o h
  cases t <;> first | exact h1 _ _ rfl | exact h2 rfl | (cases r <;> exact h.elim)
 induction t with
 | int k =>
  refine ⟨fun fuel id cs d p hT _ h _=>?_,fun fuel r o cs xs h=>(nofld _ (by simp) (by simp) _ _ h).elim⟩
  obtain ⟨n,hcs,_,hw⟩:=DataW.trod_int hT.2 h
  simp only [Lit.wf,Bool.and_eq_true,decide_eq_true_eq] at hw
  exact ⟨(⟨n,wrap_eq_of_range hw⟩:I k),hcs⟩
 | bool =>
  refine ⟨fun fuel id cs d p hT _ h _=>?_,fun fuel r o cs xs h=>(nofld _ (by simp) (by simp) _ _ h).elim⟩
  obtain ⟨n,hcs,_⟩:=DataW.trod_bool hT.2 h
  exact ⟨n,hcs⟩
 | str =>
  refine ⟨fun fuel id cs d p hT _ h hw=>?_,fun fuel r o cs xs h=>(nofld _ (by simp) (by simp) _ _ h).elim⟩
  obtain ⟨s,hcs,hx,_⟩:=DataW.trod_string hT.2 h
  simp only [Prod.mk.injEq] at hx
  obtain ⟨rfl,rfl⟩:=hx
  refine ⟨strOf s,?_,?_⟩
  ·
   rw [bytesOf_strOf]; exact hcs
  ·
   have:=hw s.data.toList.length (by simp [DataW.weights])
   have h2:(strOf s).length = s.data.toList.length:=List.length_map _
   show (strOf s).length ≤ LIM
   rw [h2]
   simp only [reachBytes,LIM] at *
   omega
 | nil =>
  refine ⟨fun fuel id cs d p hT _ h hw=>?_,fun fuel r o cs xs h _ _ _ _ hl=>⟨(),?_⟩⟩
  ·
   obtain ⟨xs,n,_,_,hl,_⟩:=DataW.trod_struct hT.2 h
   rw [hT.1] at hl
   exact ⟨(),List.eq_nil_of_length_eq_zero hl⟩
  ·
   show cs.drop o = []
   simp only [Ty.sz,Nat.add_zero] at hl
   rw [List.drop_eq_nil_iff]; omega
 | cons a b iha ihb =>
  refine ⟨fun fuel id cs d p hT hA h hw=>?_,fun fuel r o cs xs hF hA hlen hf hw hl=>?_⟩
  ·
   obtain ⟨hsz,fs,f,r,hu,hfs,hf0,hTa,hFb⟩:=hT
   obtain ⟨xs,n,_,hx,hl,hlen,hfx⟩:=DataW.trod_struct hu h
   simp only [Prod.mk.injEq] at hx
   obtain ⟨rfl,rfl⟩:=hx
   simp only [argB,hu,hfs,Bool.and_eq_true] at hA
   have hfl:∀ (i:Nat) (g:Field),(f :: r)[i]? = some g→DataW.trod enc P W base spare held n g.type ((cs.drop g.offset).take (P.cellsOf g.type)) = xs[i]?:=by
    intro i g hg
    refine hfx i g ?_
    rw [← Array.getElem?_toList,hfs]
    exact hg
   have hlen':xs.length = r.length + 1:=by rw [hlen,← Array.length_toList,hfs]; rfl
   match xs,hlen' with
   | y :: ys,hlen' =>
    simp only [DataW.weights,hu,hfs,List.map_cons,DataW.weightsEach,List.mem_append] at hw
    have h0:=hfl 0 f rfl
    simp only [List.getElem?_cons_zero] at h0
    rw [hf0,hTa.size,List.drop_zero] at h0
    obtain ⟨x,hx⟩:=iha.1 n f.type _ y.1 y.2 hTa hA.1 h0 (fun m hm=>hw m (.inl hm))
    obtain ⟨z,hz⟩:=ihb.2 n r a.sz cs ys hFb hA.2 (by simpa using hlen') (fun i g hg=>by simpa using hfl (i + 1) g hg) (fun m hm=>hw m (.inr hm)) (by rw [hl,hsz])
    exact ⟨(x,z),_,_,(List.take_append_drop a.sz cs).symm,hx,hz⟩
  ·
   cases r with
   | nil=>exact hF.elim
   | cons f r =>
    obtain ⟨hf0,hTa,hFb⟩:=hF
    simp only [fargB,Bool.and_eq_true] at hA
    match xs,hlen with
    | y :: ys,hlen =>
     simp only [List.map_cons,DataW.weightsEach,List.mem_append] at hw
     have h0:=hf 0 f rfl
     simp only [List.getElem?_cons_zero] at h0
     rw [hf0,hTa.size] at h0
     simp only [Ty.sz] at hl
     obtain ⟨x,hx⟩:=iha.1 fuel f.type _ y.1 y.2 hTa hA.1 h0 (fun m hm=>hw m (.inl hm))
     obtain ⟨z,hz⟩:=ihb.2 fuel r (o + a.sz) cs ys hFb hA.2 (by simpa using hlen) (fun i g hg=>by simpa using hf (i + 1) g hg) (fun m hm=>hw m (.inr hm)) (by omega)
     refine ⟨(x,z),_,_,(List.take_append_drop a.sz (cs.drop o)).symm,hx,?_⟩
     rw [List.drop_drop]
     exact hz
 | arr n t ih =>
  refine ⟨fun fuel id cs d p hT hA h hw=>?_,fun fuel r o cs xs h=>(nofld _ (by simp) (by simp) _ _ h).elim⟩
  obtain ⟨hsz,e,hu,hTe⟩:=hT
  obtain ⟨xs,m,_,hx,hl,hlen,hfx⟩:=DataW.trod_array hu h
  simp only [Prod.mk.injEq] at hx
  obtain ⟨rfl,rfl⟩:=hx
  simp only [argB,hu] at hA
  simp only [DataW.weights,hu] at hw
  refine exists_arr n cs (by rw [hl,hsz]) fun i hi=>?_
  have h0:=hfx i hi
  rw [hTe.size,List.getElem?_eq_getElem (by omega)] at h0
  refine ih.1 m e _ (xs[i]'(by omega)).1 (xs[i]'(by omega)).2 hTe hA h0 fun k hk=>hw k (weightsAll_mem (i:=i) ?_ k hk)
  rw [List.getElem?_map,List.getElem?_eq_getElem (by omega)]; rfl
 | sl t ih =>
  refine ⟨fun fuel id cs d p hT hA h hw=>?_,fun fuel r o cs xs h=>(nofld _ (by simp) (by simp) _ _ h).elim⟩
  obtain ⟨hsz,e,hu,hTe⟩:=hT
  simp only [argB,hu,Bool.and_eq_true] at hA
  obtain ⟨hA1,hA2,hA⟩:=hA
  have hA1:=Nat.le_of_ble_eq_true hA1
  have hA2:=Nat.le_of_ble_eq_true hA2
  rcases DataW.trod_slice hu h with ⟨rfl,_⟩ | ⟨a,len,cap,elems,rest,m,_,rfl,hx,_,hlc,_,hel,hfx,_,_⟩
  ·
   refine ⟨([]:List t.D),none,0,rfl,Nat.le_refl _,by simp,.inl rfl⟩
  ·
   simp only [Prod.mk.injEq] at hx
   obtain ⟨rfl,rfl⟩:=hx
   simp only [DataW.weights,hu,List.mem_cons,List.mem_append] at hw
   have hb:=hw _ (.inl rfl)
   have hlim:len ≤ LIM:=by
    have h1:len ≤ (elems.length + rest.length) * P.bytesOf e:=by
     rw [← hel]
     refine Nat.le_trans ?_ (Nat.mul_le_mul_left _ hA2)
     omega
    simp only [List.length_map] at hb
    simp only [reachBytes,LIM] at *
    omega
   have key:∀ i,i < len→a.spot = none∧a.block < W.heap.size∧∃ x ds,Enc W (GW W) t x ds∧cellsAt W a.block (a.off + i * t.sz) ds:=by
    have one:∀ i,i < len→∃ (ds:List Value) (x:t.D),ds.length = t.sz∧Enc W (GW W) t x ds∧∀ j d,ds[j]? = some d→W.cell? ((a.add (i * t.sz)).add j) = some d:=by
     intro i hi
     have h0:=hfx i hi
     rw [List.getElem?_eq_getElem (by omega)] at h0
     simp only [Option.bind_eq_some_iff] at h0
     obtain ⟨ds,h1,h2⟩:=h0
     obtain ⟨h3,h4⟩:=cells_row h1
     rw [hTe.size] at h3 h4
     obtain ⟨x,hx⟩:=ih.1 m e ds (elems[i]'(by omega)).1 (elems[i]'(by omega)).2 hTe hA h2 fun k hk=>hw k (.inr (.inl (weightsAll_mem (i:=i) (by rw [List.getElem?_map,List.getElem?_eq_getElem (by omega)]; rfl) k hk)))
     exact ⟨ds,x,h3,hx,h4⟩
    intro i hi
    obtain ⟨ds,x,h1,h2,h3⟩:=one i hi
    obtain ⟨ds0,_,g1,_,g3⟩:=one 0 (by omega)
    have c0:=g3 0 (ds0[0]'(by omega)) (List.getElem?_eq_getElem _)
    simp only [Nat.zero_mul] at c0
    have e0:(a.add 0).add 0 = a:=by simp [Addr.add]
    rw [e0] at c0
    obtain ⟨hs,hlt⟩:=cell_lt c0
    refine ⟨hs,hlt,x,ds,h2,fun j d hd=>?_⟩
    have:=h3 j d hd
    rw [addr_add hs,addr_add rfl] at this
    exact this
   obtain ⟨l,hl1,hl2⟩:=exists_list len (fun i x=>∃ ds,Enc W (GW W) t x ds∧cellsAt W a.block (a.off + i * t.sz) ds) fun i hi=>(key i hi).2.2
   refine ⟨l,some a,cap,?_,?_,?_,?_⟩
   ·
    show [Value.slice (some a) len cap] = [Value.slice (some a) l.length cap]; rw [hl1]
   ·
    show l.length ≤ cap; omega
   ·
    show l.length ≤ LIM; omega
   ·
    by_cases h0:len = 0
    ·
     left; show l = []; exact List.eq_nil_of_length_eq_zero (by omega)
    ·
     obtain ⟨h1,h2,_⟩:=key 0 (by omega)
     exact .inr ⟨a,rfl,h1,h2,hl2⟩
 | opq=>exact ⟨fun fuel id cs d p hT hA=>by simp [argB] at hA,fun fuel r o cs xs h=>(nofld _ (by simp) (by simp) _ _ h).elim⟩
 | fnc=>exact ⟨fun fuel id cs d p hT hA=>by simp [argB] at hA,fun fuel r o cs xs h=>(nofld _ (by simp) (by simp) _ _ h).elim⟩
end
theorem val_of_ok {P:Program} {W:World} {rr:Reach} {base:Nat} {id:TypeId} {v:Value} {t:Ty} (hT:TOk P t id) (hne:t ≠ .opq) (hnf:t ≠ .fnc) (h:Value.okWide P W rr base id v):v = mkV t.isAgg v.cells.toList:=by
 have agg:(∃ cs,v = .agg cs)→v = mkV true v.cells.toList:=by
  rintro ⟨cs,rfl⟩
  show Value.agg cs = .agg _
  congr 1
 cases t with
 | int k=>obtain ⟨n,rfl⟩:=Go.WideShapes.okWide_int hT.2 h; rfl
 | bool=>obtain ⟨n,rfl⟩:=Go.WideShapes.okWide_bool hT.2 h; rfl
 | str=>obtain ⟨n,rfl⟩:=Go.WideShapes.okWide_string hT.2 h; rfl
 | sl t=>obtain ⟨_,e,hu,_⟩:=hT; obtain ⟨a,l,c,rfl⟩:=Go.WideShapes.okWide_slice hu h; rfl
 | opq=>exact (hne rfl).elim
 | fnc=>exact (hnf rfl).elim
 | nil=>obtain ⟨_,hu⟩:=hT; simp only [Value.okWide,hu] at h; exact agg ⟨_,h.choose_spec.1⟩
 | cons a b=>obtain ⟨_,fs,f,r,hu,_⟩:=hT; simp only [Value.okWide,hu] at h; exact agg ⟨_,h.choose_spec.1⟩
 | arr n t=>obtain ⟨_,e,hu,_⟩:=hT; simp only [Value.okWide,hu] at h; exact agg ⟨_,h.choose_spec.1⟩
def Arr.all {X:Type} (p:X→Prop):(n:Nat)→Arr X n→Prop
 | 0,_=>True
 | n + 1,x=>p x.1∧Arr.all p n x.2
def Ty.bd:(t:Ty)→t.D→Prop
 | .str,x=>(show List (I .u8) from x).length ≤ LIM
 | .cons a b,x=>a.bd x.1∧b.bd x.2
 | .arr n t,x=>Arr.all t.bd n x
 | .sl t,x=>(show List t.D from x).length ≤ LIM∧∀ (i:Nat) (y:t.D),(show List t.D from x)[i]? = some y→t.bd y
 | .int _,_=>True
 | .bool,_=>True
 | .nil,_=>True
 | .opq,_=>True
 | .fnc,_=>True
theorem EncArr_all {X:Type} {E:X→List Value→Prop} {p:X→Prop} (h:∀ x cs,E x cs→p x):∀ (n:Nat) (x:Arr X n) (cs:List Value),EncArr E n x cs→Arr.all p n x
 | 0,_,_,_=>trivial
 | n + 1,x,cs,he=>by
  obtain ⟨c1,c2,_,h1,h2⟩:=he
  exact ⟨h _ _ h1,EncArr_all h n x.2 c2 h2⟩
theorem Enc_bd {W:World} {G:Nat→Prop}:∀ (t:Ty) (x:t.D) (cs:List Value),Enc W G t x cs→t.bd x:=by
 intro t
 induction t with
 | int k=>intro x cs _; trivial
 | bool=>intro x cs _; trivial
 | nil=>intro x cs _; trivial
 | opq=>intro x cs _; trivial
 | fnc=>intro x cs _; trivial
 | str=>intro x cs h; exact h.2
 | cons a b iha ihb=>intro x cs h; obtain ⟨c1,c2,_,h1,h2⟩:=h; exact ⟨iha _ _ h1,ihb _ _ h2⟩
 | arr n t ih=>intro x cs h; exact EncArr_all (fun x cs=>ih x cs) n x cs h
 | sl t ih =>
  intro x cs h
  obtain ⟨a,c,_,_,hl,hx⟩:=h
  refine ⟨hl,fun i y hy=>?_⟩
  rcases hx with hx | ⟨ad,_,_,_,hr⟩
  ·
   rw [hx] at hy; simp at hy
  ·
   obtain ⟨ds,h1,_⟩:=hr i y hy
   exact ih y ds h1
def bdAll:(ts:List Ty)→ShD (ts.map .pl)→Prop
 | [],_=>True
 | t :: ts,x=>t.bd x.1∧bdAll ts x.2
def argsB (P:Program):List Ty→List TypeId→Bool
 | [],[]=>true
 | t :: ts,id :: ids=>tokB P t id && (argB P t id && (P.readableRec id && (Nat.blt id P.types.size && argsB P ts ids)))
 | _,_=>false
section
variable {H:Type} {enc:TypeId × Value→H} {P:Program} {W:World}
def cx0 (W:World):Cx:=⟨W,GW W,fun _=>.bool false,[]⟩
theorem args_val {rr:Reach} {base:Nat}:∀ (ts:List Ty) (ids:List TypeId) (vs:List Value) (ds:List (DataW H)) (ps:List MemPlace),argsB P ts ids = true →
  DataW.TrodAll enc P W 0 (fun _=>true) true ids vs ds ps→(∀ (j:Nat) t v,ids[j]? = some t→vs[j]? = some v→Value.okWide P W rr base t v) →
  (∀ n ∈ DataW.weightsEach P ids ds,n ≤ reachBytes)→ds.length = ts.length∧∃ x:ShD (ts.map .pl),bdAll ts x∧All2 (VOk (cx0 W)) (a1U (ts.map .pl) x) vs
 | [],[],vs,ds,ps,_,hA,_,_=>by
  obtain ⟨rfl,rfl,rfl⟩:=Go.ChangeShapes.trodAll_nil hA
  exact ⟨rfl,(),trivial,trivial⟩
 | [],_ :: _,_,_,_,h,_,_,_=>by cases h
 | _ :: _,[],_,_,_,h,_,_,_=>by cases h
 | t :: ts,id :: ids,vs,ds,ps,h,hA,hv,hw=>by
  simp only [argsB,Bool.and_eq_true] at h
  obtain ⟨h1,h2,_,_,h5⟩:=h
  obtain ⟨v,vs',d,ds',p,q,rfl,rfl,rfl,⟨fuel,hd⟩,hrest⟩:=Go.ChangeShapes.trodAll_cons hA
  simp only [DataW.weightsEach,List.mem_append] at hw
  have hT:=(tok_both P t).1 id h1
  obtain ⟨x,hx⟩:=(enc_of_trod t).1 fuel id _ d p hT h2 hd fun n hn=>hw n (.inl hn)
  obtain ⟨hl,y,hbd,hy⟩:=args_val ts ids vs' ds' q h5 hrest (fun j t v ht hv'=>hv (j + 1) t v (by simpa using ht) (by simpa using hv')) fun n hn=>hw n (.inr hn)
  refine ⟨by simp [hl],(x,y),⟨Enc_bd t x _ hx,hbd⟩,?_,hy⟩
  refine ⟨_,hx,?_⟩
  exact val_of_ok hT (by rintro rfl; simp [argB] at h2) (by rintro rfl; simp [argB] at h2) (hv 0 id v rfl rfl)
theorem trodAll_below (hl:laidOutB P = true) {W':World} (hb:Go.RowKit.Below W.heap.size W W'):∀ (ts:List Ty) (ids:List TypeId) (vs:List Value) (ds:List (DataW H)) (ps:List MemPlace),argsB P ts ids = true →
  DataW.TrodAll enc P W 0 (fun _=>true) true ids vs ds ps→(∀ x ∈ ps,x.block < W.heap.size)→DataW.TrodAll enc P W' 0 (fun b=>decide (b < W.heap.size)) true ids vs ds ps
 | [],[],vs,ds,ps,_,hA,_=>by
  obtain ⟨rfl,rfl,rfl⟩:=Go.ChangeShapes.trodAll_nil hA
  exact Go.ChangeShapes.trodAll_mk0
 | [],_ :: _,_,_,_,h,_,_=>by cases h
 | _ :: _,[],_,_,_,h,_,_=>by cases h
 | t :: ts,id :: ids,vs,ds,ps,h,hA,hlt=>by
  simp only [argsB,Bool.and_eq_true] at h
  obtain ⟨_,_,h3,h4,h5⟩:=h
  obtain ⟨v,vs',d,ds',p,q,rfl,rfl,rfl,hd,hrest⟩:=Go.ChangeShapes.trodAll_cons hA
  refine ⟨p,q,Go.RowKit.Below.trod hl h3 (Nat.lt_of_succ_le (Nat.le_of_ble_eq_true h4)) hd hb fun x hx=>hlt x (by simp [hx]),?_,rfl⟩
  exact trodAll_below hl hb ts ids vs' ds' q h5 hrest fun x hx=>hlt x (by simp [hx])
theorem start0:Start (cx0 W):=by
 have hu:∀ b,a0K (cx0 W).H b = .unborn:=fun b=>by simp [cx0,a0K]
 refine ⟨fun b=>?_,fun b b' r h=>?_,fun r hr=>⟨hr,fun b h=>?_⟩⟩
 ·
  unfold BlkOk; rw [hu]; trivial
 ·
  rw [hu] at h; cases h
 ·
  rw [hu] at h; cases h
theorem row_of_con2 {C:Checked} {f:FuncId} {fn:Func} {s:ChangeSpec} {ts:List Ty} {bt:TypeId} {F:(⟨ts.map .pl,[]⟩:Tm).D→Option (⟨[.pl .bool],[]⟩:Tm).D}
  (hl : laidOutB C.prog = true) (hfn : C.prog.funcs[f]? = some fn) (hbody : fn.body.isSome = true) (hname : (fn.name == "runtime.NumGoroutine") = false)
  (hargs:argsB C.prog ts fn.params.toList = true) (hres:fn.resultTypes = #[bt]) (hbt:C.prog.underlying bt = some .bool) (hvars:s.vars = [])
  (hs:∀ ds:List (DataW H),ds.length = ts.length→s.fn H ds = { results:=[.lit (.bool true)],args:=ds })
  (hcon:a0X C.prog f ⟨⟨ts.map .pl,[]⟩,⟨[.pl .bool],[]⟩,F⟩)
  (base:Nat) (args:Array Value) (ds gs:List (DataW H)) (before:List MemPlace)
  (hval:∀ (j:Nat) t v,fn.params[j]? = some t→args[j]? = some v→Value.okWide C.prog W .any base t v)
  (hW:DataW.Whole enc C.prog fn.params.toList s.vars false W args.toList ds gs before)
  (hF:∀ x p,DataW.TrodAll enc C.prog W 0 (fun _=>true) true fn.params.toList args.toList ds p→bdAll ts x→All2 (VOk (cx0 W)) (a1U (ts.map .pl) x) args.toList→F (x,()) = some ((true,()),()))
  (hsz:(DataW.weightsEach C.prog (fn.params.toList ++ s.plain.varTypes C.prog) (ds ++ gs)).all (· ≤ reachBytes) = true) :
  Calls C.prog f args W fun e W'=>∃ v,e = .returned v∧s.post enc C.prog fn false true false false W args v W':=by
 have hW':=hW
 obtain ⟨p,q,hA,hV,rfl,hfz,hnd⟩:=hW
 rw [hvars] at hV
 obtain ⟨rfl,rfl⟩:=Go.ChangeShapes.trodVars_none hV
 have hvt:s.plain.varTypes C.prog = []:=by simp [DataSpec.varTypes,ChangeSpec.plain,hvars]
 rw [hvt,List.append_nil,List.append_nil,List.all_eq_true] at hsz
 obtain ⟨hlen,x,hbd,hx⟩:=args_val (P:=C.prog) ts fn.params.toList args.toList ds p hargs hA
  (fun j t v h1 h2=>hval j t v (by rw [← Array.getElem?_toList]; exact h1) (by rw [← Array.getElem?_toList]; exact h2)) fun n hn=>of_decide_eq_true (hsz n hn)
 have key:=hcon (x,()) ((true,()),()) (hF x p hA hbd hx) (cx0 W) args.toList start0 rfl hx
 rw [Array.toArray_toList] at key
 obtain ⟨b,hb⟩:=Option.isSome_iff_exists.1 hbody
 have hent:=run_callFunc (args:=args) (w:=W) hfn hb hname
 rcases key with ⟨v,w',h1,_⟩ | ⟨_,h⟩
 ·
  change (callFunc f args).run C.prog W = _ at h1
  rw [hent] at h1
  cases h1
 ·
  refine h.mono fun e w' hr=>?_
  obtain ⟨v,he,c',hw,hH,hv,hM,_⟩:=hr
  subst he hw
  refine ⟨v,rfl,?_⟩
  have hown:∀ r,¬ ownOf (cx0 W) r:=by
   rintro r ⟨b,hb,_⟩
   simp [cx0,a0K,live] at hb
  have bel:Go.RowKit.Below W.heap.size W c'.w:=⟨hM.os,hM.tape,hM.output,hM.size,fun k hk=>hM.frame k hk (hown k)⟩
  obtain ⟨cs,hcs,hv⟩:=hv
  have hcs:cs = [.bool true]:=hcs
  subst hcs
  have hv:v = .bool true:=hv
  subst hv
  have hfnH:=hs ds hlen
  refine ⟨ds,[],_,[],p,[],hW',?_,?_,?_,bel.frame _,fun h=>by cases h⟩
  ·
   rw [List.append_nil,hfnH,hres]
   exact Go.ChangeShapes.trodAll_mk1 (Go.RowKit.shut_bool hbt _)
  ·
   rw [List.append_nil,hfnH]
   refine trodAll_below hl bel ts _ _ _ _ hargs hA fun x hx=>?_
   exact DataW.TrodAll.lt hA x hx
  ·
   rw [List.append_nil,hfnH,hvars]
   rfl
theorem row_of_con {C:Checked} {f:FuncId} {fn:Func} {s:ChangeSpec} {ts:List Ty} {bt:TypeId} {F:(⟨ts.map .pl,[]⟩:Tm).D→Option (⟨[.pl .bool],[]⟩:Tm).D}
  (hl : laidOutB C.prog = true) (hfn : C.prog.funcs[f]? = some fn) (hbody : fn.body.isSome = true) (hname : (fn.name == "runtime.NumGoroutine") = false)
  (hargs:argsB C.prog ts fn.params.toList = true) (hres:fn.resultTypes = #[bt]) (hbt:C.prog.underlying bt = some .bool) (hvars:s.vars = [])
  (hs:∀ ds:List (DataW H),ds.length = ts.length→s.fn H ds = { results:=[.lit (.bool true)],args:=ds })
  (hcon:a0X C.prog f ⟨⟨ts.map .pl,[]⟩,⟨[.pl .bool],[]⟩,F⟩) (hF:∀ x,bdAll ts x→F (x,()) = some ((true,()),()))
  (base:Nat) (args:Array Value) (ds gs:List (DataW H)) (before:List MemPlace)
  (hval:∀ (j:Nat) t v,fn.params[j]? = some t→args[j]? = some v→Value.okWide C.prog W .any base t v)
  (hW:DataW.Whole enc C.prog fn.params.toList s.vars false W args.toList ds gs before)
  (hsz:(DataW.weightsEach C.prog (fn.params.toList ++ s.plain.varTypes C.prog) (ds ++ gs)).all (· ≤ reachBytes) = true) :
  Calls C.prog f args W fun e W'=>∃ v,e = .returned v∧s.post enc C.prog fn false true false false W args v W' :=
 row_of_con2 hl hfn hbody hname hargs hres hbt hvars hs hcon base args ds gs before hval hW (fun x _ _ h _=>hF x h) hsz
end
end Sym

/- Audit: Total agrees with the reference. -/
namespace Sym
open Go
end Sym

/- Audit: sums in five words and big sums. -/
namespace Sym
open Go
def tot {X:Type} (f:X→U) (l:List X):Nat:=(l.map (fun x=>(f x).val)).sum
end Sym

/- Audit: Check agrees with the reference. -/
namespace Sym
open Go
abbrev aBal (x:a0G):U:=x.2.1
end Sym

/- Audit: the reference's Check. -/
namespace Sym
open Go
end Sym

/- Audit: the state of the reference machine. -/
namespace Sym
open Go
theorem tot_app {X:Type} (f:X→U) (a b:List X):tot f (a ++ b) = tot f a + tot f b:=by simp [tot]
theorem tot_cons {X:Type} (f:X→U) (x:X) (l:List X):tot f (x :: l) = (f x).val + tot f l:=by simp [tot]
end Sym

/- Audit: Check, the plain law. -/
namespace Sym
open Go
end Sym

/- Audit: what the ledger's and the pricer's steps do to the sums. -/
namespace Sym
open Go
theorem aAt_hit {l:List Ac} {a:I .u64} (h:aAt l a < l.length):I.eqb (rdL dA l (aAt l a)).1 a = true:=by
 rw [rdL_eq dA l _ h]
 exact List.findIdx_getElem (w:=h)
theorem aAt_miss {l:List Ac} {a:I .u64} {k:Nat} (h:k < aAt l a) (hk:k < l.length):I.eqb (rdL dA l k).1 a = false:=by
 rw [rdL_eq dA l _ hk]
 have:=List.not_of_lt_findIdx (p:=fun p:Ac=>I.eqb p.1 a) (xs:=l) h
 simpa using this
theorem get_put {l:List Ac} {a:I .u64} {x:Ac} (hx:x.1 = a):getS (putS l x) a = x:=by
 subst hx
 have he:I.eqb x.1 x.1 = true:=iff_eqb.2 rfl
 unfold putS
 split
 ·
  rename_i h
  have hl:(setL l (aAt l x.1) x).length = l.length:=setL_len _ _ _
  have e:aAt (setL l (aAt l x.1) x) x.1 = aAt l x.1:=by
   refine aAt_of (by omega) ?_ fun k hk=>?_
   ·
    rw [setL,rdL_set,if_pos ⟨rfl,h⟩]; exact he
   ·
    rw [setL,rdL_set,if_neg (by omega)]; exact aAt_miss hk (by omega)
  unfold getS
  rw [e,if_pos (by omega),setL,rdL_set,if_pos ⟨rfl,h⟩]
 ·
  rename_i h
  have e:aAt (l ++ [x]) x.1 = l.length:=by
   refine aAt_of (by simp) ?_ fun k hk=>?_
   ·
    rw [rdL_app,if_neg (by omega),Nat.sub_self]; exact he
   ·
    rw [rdL_app,if_pos hk]; exact aAt_miss (by omega) hk
  unfold getS
  rw [e,if_pos (by simp),rdL_app,if_neg (by omega),Nat.sub_self]
  rfl
theorem tot_set {X:Type} (f:X→U) (d:X):∀ (l:List X) (i:Nat) (x:X),i < l.length→tot f (setAt l i x) + (f (rdL d l i)).val = tot f l + (f x).val
 | [],_,_,h=>absurd h (Nat.not_lt_zero _)
 | y :: l,0,x,_=>by
  show tot f (x :: l) + (f y).val = tot f (y :: l) + (f x).val
  rw [tot_cons,tot_cons]; omega
 | y :: l,i + 1,x,h=>by
  have ih:=tot_set f d l i x (Nat.lt_of_succ_lt_succ h)
  show tot f (y :: setAt l i x) + (f (rdL d l i)).val = tot f (y :: l) + (f x).val
  rw [tot_cons,tot_cons]; omega
theorem balN_tot (l:List Ac):balN l = tot aBal l:=rfl
theorem put_bal (l:List Ac) (a:I .u64) (x:Ac) (hx:x.1 = a):balN (putS l x) + (getS l a).2.1.val = balN l + x.2.1.val:=by
 subst hx
 unfold putS getS
 by_cases h:aAt l x.1 < l.length
 ·
  rw [if_pos h,if_pos h]
  exact tot_set aBal dA l _ x h
 ·
  rw [if_neg h,if_neg h,balN_tot,balN_tot,tot_app]
  show tot aBal l + (x.2.1.val + 0) + 0 = _
  omega
end Sym

/- The search in a sorted table; the program's ledger. -/
namespace Sym
open Go
noncomputable def bsF {X:Type} (d:I .u64 × X) (K:Nat) (l:List (I .u64 × X)) (b:I .u64):Option ((I .i64 × (Bool × Unit)) × Unit) :=
 iter none (fun (x0:(List (I .u64 × X) × (I .u64 × (I .i64 × (I .i64 × (I .i64 × Unit))))) × Unit) =>
  let h:=I.conv (k:=.u64) .i64 (I.shr (I.conv (k:=.i64) .u64 (I.add x0.1.2.2.2.1 x0.1.2.2.2.2.1)) (I.of .u64 1))
  let lo:Stp ((List (I .u64 × X) × (I .u64 × (I .i64 × (I .i64 × (I .i64 × Unit))))) × Unit) (Option ((I .i64 × (Bool × Unit)) × Unit)):=.again ((x0.1.1,(x0.1.2.1,(x0.1.2.2.1,(x0.1.2.2.2.1,(h,()))))),())
  let hi:Stp ((List (I .u64 × X) × (I .u64 × (I .i64 × (I .i64 × (I .i64 × Unit))))) × Unit) (Option ((I .i64 × (Bool × Unit)) × Unit)):=.again ((x0.1.1,(x0.1.2.1,(x0.1.2.2.1,(I.add h (I.of .i64 1),(x0.1.2.2.2.2.1,()))))),())
  let y:=(rdL d x0.1.1 (I.nat h)).1
  let w:=(rdL d x0.1.1 (I.nat x0.1.2.2.2.1)).1
  let r:=fun b:Bool=>some ((x0.1.2.2.2.1,(b,())),())
  brn (I.ltb x0.1.2.2.2.1 x0.1.2.2.2.2.1)
  (brn (inB h (a1I x0.1.1))
   (brn (I.neb y y) (brn (I.neb x0.1.2.1 x0.1.2.1) lo hi)
   (brn (I.neb x0.1.2.1 x0.1.2.1) lo (brn (I.ltb y x0.1.2.1) hi (brn (I.ltb x0.1.2.1 y) lo lo))))
   (.done none))
  (.done (brn (I.ltb x0.1.2.2.2.1 x0.1.2.2.1)
   (brn (inB x0.1.2.2.2.1 (a1I x0.1.1))
   (brn (I.neb w w) (brn (I.neb x0.1.2.1 x0.1.2.1) (r true) (r false))
    (brn (I.neb x0.1.2.1 x0.1.2.1) (r false) (brn (I.ltb w x0.1.2.1) (r false) (brn (I.ltb x0.1.2.1 w) (r false) (r true)))))
   none)
   (r false))))
 K ((l,(b,(I.ofNat .i64 (a1I l),(I.of .i64 0,(I.ofNat .i64 (a1I l),()))))),())
theorem mid_i6 {i j:Nat} (h:i + j < 9223372036854775808):I.conv (k:=.u64) .i64 (I.shr (I.conv (k:=.i64) .u64 (I.add (i6 i) (i6 j))) (I.of .u64 1)) = i6 ((i + j) / 2):=by
 have e:(I.shr (I.of .u64 ((i + j:Nat):Int)) (I.of .u64 1)).val = ((i + j:Nat):Int) / 2:=by
  have h1:(I.of .u64 ((i + j:Nat):Int)).val = ((i + j:Nat):Int):=of_u64 ⟨by omega,by omega⟩
  unfold I.shr
  rw [h1,show min (I.of .u64 1).val.toNat IntKind.u64.bits = 1 from rfl,show ((2:Int) ^ 1) = 2 from rfl,Int.fdiv_eq_ediv_of_nonneg _ (by decide)]
  exact of_u64 ⟨by omega,by omega⟩
 rw [i6_add h,conv_i6n h]
 apply I.ext'
 unfold I.conv
 rw [e,a1J (by omega),of_i64 ⟨by omega,by omega⟩]
 omega
theorem nes (a:I .u64):I.neb a a = false:=niff_neb.2 rfl
theorem bs_ok {X:Type} (d:I .u64 × X) (l:List (I .u64 × X)) (b:I .u64) (hs:Srt l) (hl:l.length ≤ 1073741824):bsF d K0 l b = some ((i6 (loR l b),(fndR l b,())),()):=by
 refine Wp.out (T:=fun o=>o = some ((i6 (loR l b),(fndR l b,())),())) ?_
 have h0:=loR_le l b
 refine Wp.iter (fun x=>∃ i j,i ≤ loR l b∧loR l b ≤ j∧j ≤ l.length∧x = ((l,(b,(i6 l.length,(i6 i,(i6 j,()))))),())) (fun x=>x.1.2.2.2.2.1.val.toNat - x.1.2.2.2.1.val.toNat) ?_ ⟨0,l.length,by omega,by omega,by omega,rfl⟩ (by rw [K0_eq]; show (i6 l.length).val.toNat - 0 < _; rw [a1J (by omega)]; omega)
 rintro x ⟨i,j,hi,hj,hn,rfl⟩
 simp only [mid_i6 (show i + j < 9223372036854775808 by omega),nes,i6_nat (show (i + j) / 2 < 9223372036854775808 by omega),i6_nat (show i < 9223372036854775808 by omega)]
 refine Wp.brn (fun h=>?_) (fun h=>Wp.done ?_)
 ·
  have h:i < j:=of_decide_eq_true ((i6_ltb (by omega) (by omega)).symm.trans h)
  have hh:=loR_lt d l b ((i + j) / 2)
  have hg:=loR_ge d l b ((i + j) / 2) hs
  refine Wp.brnT (i6_inB (by show (i + j) / 2 < l.length; omega) (by omega)) (Wp.brnF rfl (Wp.brnF rfl (Wp.brn (fun h1=>?_) (fun h1=>?_))))
  ·
   have h1:=iff_ltb.1 h1
   have hn1:I.add (i6 ((i + j) / 2)) (I.of .i64 1) = i6 ((i + j) / 2 + 1):=i6_add (m:=1) (by omega)
   refine Wp.again ⟨(i + j) / 2 + 1,j,?_,hj,hn,by rw [hn1]⟩ ?_
   ·
    rcases Nat.lt_or_ge ((i + j) / 2) (loR l b) with g | g
    ·
     exact g
    ·
     have:=hg g (by omega); omega
   ·
    show (i6 j).val.toNat - (I.add (i6 ((i + j) / 2)) (I.of .i64 1)).val.toNat < (i6 j).val.toNat - (i6 i).val.toNat
    rw [hn1,a1J (by omega),a1J (by omega),a1J (by omega)]; omega
  ·
   have h1:=niff_ltb.1 h1
   have ag:Wp (Rnd (fun o=>o = some ((i6 (loR l b),(fndR l b,())),())) (fun x=>∃ i j,i ≤ loR l b∧loR l b ≤ j∧j ≤ l.length∧x = ((l,(b,(i6 l.length,(i6 i,(i6 j,()))))),())) (fun x=>x.1.2.2.2.2.1.val.toNat - x.1.2.2.2.1.val.toNat) ((i6 j).val.toNat - (i6 i).val.toNat)) (.again ((l,(b,(i6 l.length,(i6 i,(i6 ((i + j) / 2),()))))),())):=by
    refine Wp.again ⟨i,(i + j) / 2,hi,?_,by omega,rfl⟩ ?_
    ·
     rcases Nat.lt_or_ge ((i + j) / 2) (loR l b) with g | g
     ·
      have:=hh g; omega
     ·
      exact g
    ·
     show (i6 ((i + j) / 2)).val.toNat - (i6 i).val.toNat < (i6 j).val.toNat - (i6 i).val.toNat
     rw [a1J (by omega),a1J (by omega),a1J (by omega)]; omega
   exact Wp.brn (fun _=>ag) (fun _=>ag)
 ·
  have h:¬ i < j:=of_decide_eq_false ((i6_ltb (by omega) (by omega)).symm.trans h)
  have e:i = loR l b:=by omega
  subst e
  rw [fndR_eq d]
  refine Wp.brn (fun h=>?_) (fun h=>?_)
  ·
   have h:loR l b < l.length:=of_decide_eq_true ((i6_ltb (by omega) (by omega)).symm.trans h)
   have hg:=loR_ge d l b _ hs (Nat.le_refl _) h
   refine Wp.brnT (i6_inB h (by omega)) (Wp.brnF rfl (Wp.brnF rfl (Wp.brn (fun h1=>?_) (fun h1=>Wp.brn (fun h2=>?_) (fun h2=>?_)))))
   ·
    have:=iff_ltb.1 h1; omega
   ·
    have:=iff_ltb.1 h2
    rw [decide_eq_false (by omega)]; rfl
   ·
    have h1:=niff_ltb.1 h1; have h2:=niff_ltb.1 h2
    rw [decide_eq_true ⟨h,by omega⟩]; rfl
  ·
   have h:¬ loR l b < l.length:=of_decide_eq_false ((i6_ltb (by omega) (by omega)).symm.trans h)
   rw [decide_eq_false (by omega)]; rfl
theorem find_ok (l:List Ac) (v) (b:I .u64) (hs:Srt l) (hl:l.length ≤ 1073741824):ledger_Ledger_find K0 (((l,v),(b,())),()) = some ((i6 (loR l b),(fndR l b,())),()) :=
 (show _ = bsF Z_S_api_Account K0 l b from rfl).trans (bs_ok _ l b hs hl)
noncomputable def emp (x:Ac):Bool:=Ty.eqb a1A x.2.1 Z_U && I.eqb x.2.2.1 (I.of .u64 0)
noncomputable abbrev zA:U × (I .u64 × Unit):=(Z_U,(I.of .u64 0,()))
theorem emp_zero {x:Ac} (h:emp x = true):x = (x.1,zA):=by
 obtain ⟨a,b,c,⟨⟩⟩:=x
 simp only [emp,Bool.and_eq_true] at h
 rw [show b = Z_U from (eqb_iff a1A rfl _ _).1 h.1,show c = I.of .u64 0 from I.eq_of h.2]
theorem isEmpty_eq (x:Ac):ledger_isEmpty K0 ((x,()),()) = some ((emp x,()),()):=by
 show brn (Ty.eqb a1A x.2.1 Z_U) (some ((I.eqb x.2.2.1 (I.of .u64 0),()),())) (some ((false,()),())) = some ((Ty.eqb a1A x.2.1 Z_U && I.eqb x.2.2.1 (I.of .u64 0),()),())
 cases Ty.eqb a1A x.2.1 Z_U <;> rfl
structure LR (n:Nat) (ac al:List Ac):Prop where
 srt:Srt al
 ne:∀ x ∈ al,emp x = false
 get:∀ a,getR zA al a = getS ac a
 sum:balN al = balN ac
 len:al.length ≤ n
theorem LR.mono {n k:Nat} {ac al:List Ac} (h:LR n ac al) (hk:n ≤ k):LR k ac al:={ h with len:=Nat.le_trans h.len hk }
theorem aAt_ext {l m:List Ac} {a:I .u64} (h:l.length = m.length) (g:∀ k,k < l.length→I.eqb (rdL dA l k).1 a = I.eqb (rdL dA m k).1 a):aAt l a = aAt m a:=by
 rcases Nat.lt_or_ge (aAt m a) m.length with hm | hm
 ·
  exact aAt_of (by omega) ((g _ (by omega)).trans (aAt_hit hm)) fun k hk=>(g k (by omega)).trans (aAt_miss hk (by omega))
 ·
  have:aAt m a ≤ m.length:=List.findIdx_le_length
  refine (aAt_none fun k hk=>(g k hk).trans (aAt_miss (by omega) (by omega))).trans (by omega)
theorem get_ne {l:List Ac} {x:Ac} {a:I .u64} (hx:I.eqb x.1 a = false):getS (putS l x) a = getS l a:=by
 unfold putS
 split
 ·
  rename_i h
  have hl:(setL l (aAt l x.1) x).length = l.length:=setL_len _ _ _
  have hg:∀ k,k < l.length→I.eqb (rdL dA (setL l (aAt l x.1) x) k).1 a = I.eqb (rdL dA l k).1 a:=fun k hk=>by
   rw [setL,rdL_set]
   split
   ·
    rename_i e
    rw [hx,e.1,I.eq_of (aAt_hit h),hx]
   ·
    rfl
  have e:=aAt_ext (a:=a) hl (fun k hk=>hg k (by omega))
  unfold getS
  rw [e,hl]
  split
  ·
   rename_i hi
   rw [setL,rdL_set,if_neg]
   rintro ⟨e1,_⟩
   have:=aAt_hit hi
   rw [e1,I.eq_of (aAt_hit h),hx] at this
   cases this
  ·
   rfl
 ·
  rcases Nat.lt_or_ge (aAt l a) l.length with hm | hm
  ·
   have e:aAt (l ++ [x]) a = aAt l a:=aAt_of (by simp; omega) (by rw [rdL_app,if_pos hm]; exact aAt_hit hm) fun k hk=>by rw [rdL_app,if_pos (by omega)]; exact aAt_miss hk (by omega)
   unfold getS
   rw [e,if_pos (by simp; omega),if_pos hm,rdL_app,if_pos hm]
  ·
   have e:aAt (l ++ [x]) a = (l ++ [x]).length:=aAt_none fun k hk=>by
    rw [rdL_app]
    split
    ·
     exact aAt_miss (by omega) (by assumption)
    ·
     have:k = l.length:=by simp at hk; omega
     subst this
     rw [Nat.sub_self]; exact hx
   unfold getS
   rw [e,if_neg (by omega),if_neg (by omega)]
theorem LR.put {n:Nat} {ac al:List Ac} (h:LR n ac al) (x:Ac):LR (n + 1) (putS ac x) (insR emp al x) where
 srt:=insR_srt _ _ h.srt
 ne y hy:=by
  rcases insR_mem _ _ _ hy with h2 | h2
  ·
   rw [h2.1]; exact h2.2
  ·
   exact h.ne y h2
 get a:=by
  rw [insR_get zA al x a h.srt]
  split
  ·
   rename_i e
   have e:x.1 = a:=(I.ext' e).symm
   rw [get_put e]
   split
   ·
    rename_i g; rw [← e]; exact (emp_zero g).symm
   ·
    rfl
  ·
   rename_i e
   rw [get_ne (niff_eqb.2 fun h=>e h.symm),h.get]
 sum:=by
  have a:=insR_sum (e:=emp) zA (fun x:Ac=>U.val x.2.1) (fun _=>rfl) (fun x hx=>by rw [emp_zero hx]; rfl) al x h.srt
  have b:=put_bal ac x.1 x rfl
  have c:=h.sum
  rw [h.get] at a
  unfold balN at *
  omega
 len:=Nat.le_trans (insR_len _ _) (Nat.succ_le_succ h.len)
theorem LR.zero:LR 0 [] []:=⟨List.Pairwise.nil,fun _ h=>(List.not_mem_nil h).elim,fun _=>rfl,rfl,Nat.le_refl _⟩
theorem pget_eq {n:Nat} {ac al:List Ac} (h:LR n ac al) (hn:n ≤ 1073741824) (v) (b:I .u64):ledger_Ledger_get K0 (((al,v),(b,())),()) = some ((getS ac b,()),()):=by
 refine Wp.out (T:=fun o=>o = some ((getS ac b,()),())) ?_
 have hl:=h.len
 rw [← h.get,getR_eq zA dA al b h.srt]
 unfold ledger_Ledger_get
 refine Wp.optF (find_ok al v b h.srt (by omega)) (Wp.brn (fun h1=>?_) (fun h1=>?_))
 ·
  have h1:fndR al b = true:=h1
  have h2:=h1
  rw [fndR_eq dA] at h2
  have h2:=of_decide_eq_true h2
  rw [if_pos h1]
  refine Wp.brnT (i6_inB h2.1 (by omega)) ?_
  show some ((rdL dA al (I.nat (i6 (loR al b))),()),()) = _
  rw [i6_nat (by omega)]
 ·
  have h1:fndR al b = false:=h1
  rw [if_neg (by rw [h1]; decide)]; rfl
theorem pset_eq {n:Nat} {ac al:List Ac} (h:LR n ac al) (hn:n ≤ 1073741823) (h0:LgH) (x:Ac):ledger_Ledger_set K0 ((x,()),(h0,(al,()))) = some ((),(h0,(insR emp al x,()))):=by
 refine Wp.out (T:=fun o=>o = some ((),(h0,(insR emp al x,())))) ?_
 have hl:=h.len
 have lo:=loR_le al x.1
 have hnat:I.nat (i6 (loR al x.1)) = loR al x.1:=i6_nat (by omega)
 unfold ledger_Ledger_set
 refine Wp.optF (find_ok al _ x.1 h.srt (by omega)) ?_
 refine Wp.jn (fun y=>y = ((i6 (loR al x.1),(fndR al x.1,(fndR al x.1 && emp x,()))),(h0,(al,(x,()))))) ?_ (fun j hj=>Wp.brn (fun h1=>?_) (fun h1=>?_))
 ·
  rintro y rfl
  refine Wp.brn (fun h1=>?_) (fun h1=>?_)
  ·
   have h1:(fndR al x.1 && emp x) = true:=h1
   rw [Bool.and_eq_true] at h1
   have h2:=h1.1
   rw [fndR_eq dA] at h2
   have h2:=of_decide_eq_true h2
   rw [insR_del al x h1.2 h1.1]
   have hn1:I.add (i6 (loR al x.1)) (I.of .i64 1) = i6 (loR al x.1 + 1):=i6_add (m:=1) (by omega)
   have hd:delF a0M ((i6 (loR al x.1),(I.add (i6 (loR al x.1)) (I.of .i64 1),())),(al,())) = some ((),(al.take (loR al x.1) ++ al.drop (loR al x.1 + 1),())):=by
    rw [hn1]
    refine Wp.out (T:=fun o=>o = some ((),(al.take (loR al x.1) ++ al.drop (loR al x.1 + 1),()))) ?_
    unfold delF
    refine Wp.brnT ((i6_ltb (by omega) (by omega)).trans (decide_eq_true (Nat.lt_succ_self _))) (Wp.brnT (i6_inB' (by rw [i6_nat (by omega)]; omega) (by omega)) (Wp.brnT (i6_inB' (by show _ ≤ al.length; omega) (by omega)) ?_))
    rw [i6_nat (by omega),i6_nat (by omega)]
    show some ((),(subL al 0 (loR al x.1) ++ subL al (loR al x.1 + 1) (al.length - (loR al x.1 + 1)),())) = _
    rw [subL_take,subL_drop]
   exact Wp.optF hd rfl
  ·
   have h1:(fndR al x.1 && emp x) = false:=h1
   refine Wp.brn (fun h2=>?_) (fun h2=>?_)
   ·
    have h2:fndR al x.1 = true:=h2
    have h3:=h2
    rw [fndR_eq dA] at h3
    have h3:=of_decide_eq_true h3
    rw [h2,Bool.true_and] at h1
    rw [insR_set al x h1 h2]
    refine Wp.brnT (i6_inB h3.1 (by omega)) ?_
    rw [hnat]; rfl
   ·
    have h2:fndR al x.1 = false:=h2
    rw [insR_new al x h2]
    refine Wp.optF (isEmpty_eq x) (Wp.brn (fun h3=>?_) (fun h3=>?_))
    ·
     have h3:emp x = false:=bntT h3
     rw [if_neg (by rw [h3]; decide)]
     have hi:insF a0M ((i6 (loR al x.1),()),(al,([x],()))) = some ((),(al.take (loR al x.1) ++ [x] ++ al.drop (loR al x.1),())):=by
      refine Wp.out (T:=fun o=>o = some ((),(al.take (loR al x.1) ++ [x] ++ al.drop (loR al x.1),()))) ?_
      unfold insF
      refine Wp.brnT (i6_inB' lo (by omega)) (Wp.brnT rfl (Wp.brnT (fits_le (by show al.length + 1 ≤ _; omega)) ?_))
      rw [hnat]
      show some ((),(subL al 0 (loR al x.1) ++ [x] ++ subL al (loR al x.1) (al.length - loR al x.1),())) = _
      rw [subL_take,subL_drop]
     exact Wp.optF hi rfl
    ·
     have h3:emp x = true:=bntF h3
     rw [if_pos h3]; rfl
 ·
  have h1:fndR al x.1 = true:=h1
  refine Wp.optF (isEmpty_eq x) (hj _ ?_)
  rw [h1,Bool.true_and]
 ·
  have h1:fndR al x.1 = false:=h1
  refine hj _ ?_
  rw [h1]; rfl
end Sym

/- The program's ledger: its methods. -/
namespace Sym
open Go
theorem sat_lt {a b:U} (h:a.val + b.val < U.top):a1T K0 ((a,(b,())),()) = some ((U.of (a.val + b.val),()),()):=by
 rw [uint256_SaturatingAdd_ok,Nat.min_eq_left (by omega)]
theorem debit_ok {n:Nat} {ac al:List Ac} (h:LR n ac al) (hn:n ≤ 1073741823) (v:V4) (a:I .u64) (k:U) :
  ∃ al',ledger_Ledger_debit K0 ((a,(k,())),(lgH v,(al,()))) = some ((if debitB ac a k then I.of .i64 0 else I.of .i64 10,()),(lgH v,(al',())))∧LR (n + 1) (debitS ac a k) al':=by
 unfold debitB debitS
 by_cases hk:k.val ≤ (getS ac a).2.1.val
 ·
  rw [if_pos hk,decide_eq_true hk]
  refine ⟨_,?_,h.put (setBal (getS ac a) (U.of ((getS ac a).2.1.val - k.val)))⟩
  refine Wp.out (T:=fun o=>o = _) ?_
  unfold ledger_Ledger_debit
  have hs:=uint256_Sub_eq (getS ac a).2.1 k
  unfold subS at hs
  rw [if_pos hk] at hs
  exact Wp.optF (pget_eq h (by omega) _ a) (Wp.optF hs (Wp.brnF rfl (Wp.optF (pset_eq h hn _ _) rfl)))
 ·
  rw [if_neg hk,decide_eq_false hk]
  refine ⟨al,?_,h.mono (by omega)⟩
  refine Wp.out (T:=fun o=>o = _) ?_
  unfold ledger_Ledger_debit
  have hs:=uint256_Sub_eq (getS ac a).2.1 k
  unfold subS at hs
  rw [if_neg hk] at hs
  exact Wp.optF (pget_eq h (by omega) _ a) (Wp.optF hs (Wp.brnT rfl rfl))
theorem isVault_eq (k:Nat) (hk:k < 4):ledger_isVault K0 ((i6 (k + 1),()),()) = some ((true,()),()):=by
 rcases (by omega:k = 0 ∨ k = 1 ∨ k = 2 ∨ k = 3) with rfl | rfl | rfl | rfl <;> rfl
theorem inc_ok {n:Nat} {ac al:List Ac} (h:LR n ac al) (hn:n ≤ 1073741823) (v:V4) (a:I .u64) :
  ∃ al',ledger_Ledger_IncrementNonce K0 ((a,()),(lgH v,(al,()))) = some (((incS ac a).1,()),(lgH v,(al',())))∧LR (n + 1) (incS ac a).2 al':=by
 unfold incS
 by_cases ha:a.val = 0
 ·
  rw [if_pos ha]
  refine ⟨al,?_,h.mono (by omega)⟩
  refine Wp.out (T:=fun o=>o = _) ?_
  unfold ledger_Ledger_IncrementNonce
  exact Wp.brnT (iff_eqb.2 ha) rfl
 ·
  rw [if_neg ha]
  have hm:(I.add (getS ac a).2.2.1 (I.of .u64 1)).val = 0 ↔ I.eqb (getS ac a).2.2.1 (I.of .u64 18446744073709551615) = true:=by
   have hr:=u64_range (getS ac a).2.2.1
   rw [iff_eqb,show (I.of .u64 18446744073709551615).val = 18446744073709551615 from rfl]
   show (IntKind.u64.wrap ((getS ac a).2.2.1.val + 1)) = 0 ↔ _
   rw [wrap_u64]
   omega
  by_cases h1:(I.add (getS ac a).2.2.1 (I.of .u64 1)).val = 0
  ·
   rw [if_pos h1]
   refine ⟨al,?_,h.mono (by omega)⟩
   refine Wp.out (T:=fun o=>o = _) ?_
   unfold ledger_Ledger_IncrementNonce
   exact Wp.brnF (niff_eqb.2 ha) (Wp.optF (pget_eq h (by omega) _ a) (Wp.brnT (hm.1 h1) rfl))
  ·
   rw [if_neg h1]
   refine ⟨_,?_,h.put _⟩
   refine Wp.out (T:=fun o=>o = _) ?_
   unfold ledger_Ledger_IncrementNonce
   exact Wp.brnF (niff_eqb.2 ha) (Wp.optF (pget_eq h (by omega) _ a) (Wp.brnF (by cases hc:I.eqb (getS ac a).2.2.1 (I.of .u64 18446744073709551615) with | false=>rfl | true=>exact absurd (hm.2 hc) h1) (Wp.optF (pset_eq h hn _ _) rfl)))
end Sym

/- The program's ledger and escrow: supply, vaults, payments on L1. -/
namespace Sym
open Go
theorem sat_of {n m:Nat} {k:U} (hm:m = n + k.val) (h:m < U.top):a1T K0 ((U.of n,(k,())),()) = some ((U.of m,()),()):=by
 have e:(U.of n).val = n:=U.val_of (by omega)
 rw [sat_lt (by omega),e,hm]
theorem uof0:U.of 0 = Z_U:=U.ext (U.val_of (by decide))
theorem psup_ok (al:List Ac) (v:V4) (hl:al.length ≤ 1073741824) (hb:balN al + vauN v < U.top):ledger_Ledger_Supply K0 (((al,(v,())),()),()) = some ((U.of (balN al + vauN v),()),()):=by
 refine Wp.out (T:=fun o=>o = some ((U.of (balN al + vauN v),()),())) ?_
 unfold ledger_Ledger_Supply
 have hbt:∀ i,balN (al.take i) ≤ balN al:=fun i=>by
  have:balN al = balN (al.take i) + balN (al.drop i):=by unfold balN; rw [← List.sum_append,← List.map_append,List.take_append_drop]
  omega
 refine Wp.iter (fun x=>∃ i,i ≤ al.length∧x = (((al,(v,())),(al,(i6 al.length,(i6 i,())))),(Z_U,(U.of (balN (al.take i)),())))) (fun x=>al.length - x.1.2.2.2.1.val.toNat) ?_ ⟨0,by omega,by rw [show balN (al.take 0) = 0 from rfl,uof0]; rfl⟩ (by rw [K0_eq]; show al.length - 0 < _; omega)
 rintro x ⟨i,hi,rfl⟩
 refine Wp.brn (fun h=>?_) (fun h=>Wp.done ?_)
 ·
  have h:i < al.length:=of_decide_eq_true ((i6_ltb (by omega) (by omega)).symm.trans h)
  have hn:I.add (i6 i) (I.of .i64 1) = i6 (i + 1):=i6_add (m:=1) (by omega)
  have ht:=balN_take h
  have:=hbt (i + 1)
  have hs:a1T K0 ((U.of (balN (al.take i)),((rdL dA al (I.nat (i6 i))).2.1,())),()) = some ((U.of (balN (al.take (i + 1))),()),()):=by
   rw [i6_nat (by omega)]; exact sat_of ht (by omega)
  refine Wp.brnT (i6_inB h (by omega)) (Wp.optF hs (Wp.again ⟨i + 1,h,by rw [hn]; rfl⟩ ?_))
  show al.length - (I.add (i6 i) (I.of .i64 1)).val.toNat < al.length - (i6 i).val.toNat
  rw [hn,a1J (by omega),a1J (by omega)]; omega
 ·
  have h:¬ i < al.length:=of_decide_eq_false ((i6_ltb (by omega) (by omega)).symm.trans h)
  have e:i = al.length:=by omega
  subst e
  rw [List.take_length]
  refine Wp.iter (fun x=>∃ i,i ≤ 4∧x = ((v,(i6 i,())),(Z_U,(U.of (balN al + vauI v i),())))) (fun x=>4 - x.1.2.1.val.toNat) ?_ ⟨0,by omega,rfl⟩ (by rw [K0_eq]; show 4 - 0 < _; decide)
  rintro x ⟨i,hi,rfl⟩
  refine Wp.brn (fun h=>?_) (fun h=>Wp.done ?_)
  ·
   have h:i < 4:=of_decide_eq_true ((i6_ltb (m:=4) (by omega) (by omega)).symm.trans h)
   have hn:I.add (i6 i) (I.of .i64 1) = i6 (i + 1):=i6_add (m:=1) (by omega)
   have ht:=vauI_succ v i h
   have hv:vauI v (i + 1) ≤ vauN v:=by unfold vauI vauN; split <;> split <;> split <;> split <;> omega
   have hs:a1T K0 ((U.of (balN al + vauI v i),(Arr.sel Z_U 4 v (I.nat (i6 i)),())),()) = some ((U.of (balN al + vauI v (i + 1)),()),()):=by
    rw [i6_nat (by omega)]; exact sat_of (by rw [ht,← Nat.add_assoc]; rfl) (by omega)
   refine Wp.brnT (i6_inB h (by omega)) (Wp.optF hs (Wp.again ⟨i + 1,h,by rw [hn]; rfl⟩ ?_))
   show 4 - (I.add (i6 i) (I.of .i64 1)).val.toNat < 4 - (i6 i).val.toNat
   rw [hn,a1J (by omega),a1J (by omega)]; omega
  ·
   have h:¬ i < 4:=of_decide_eq_false ((i6_ltb (m:=4) (by omega) (by omega)).symm.trans h)
   have e:i = 4:=by omega
   subst e
   rfl
theorem pvault_eq (al:List Ac) (v:V4) (k:Nat) (hk:k < 4):ledger_Ledger_Vault K0 (((al,(v,())),(i6 (k + 1),())),()) = some ((vGet v k,()),()):=by
 refine Wp.out (T:=fun o=>o = some ((vGet v k,()),())) ?_
 unfold ledger_Ledger_Vault
 have hsub:I.sub (i6 (k + 1)) (I.of .i64 1) = i6 k:=i6_sub (m:=1) (by omega) (by omega)
 refine Wp.optF (isVault_eq k hk) (Wp.brnF rfl (Wp.brnT (by show inB (I.sub (i6 (k + 1)) (I.of .i64 1)) 4 = true; rw [hsub]; exact i6_inB hk (by omega)) ?_))
 show some ((Arr.sel Z_U 4 v (I.nat (I.sub (i6 (k + 1)) (I.of .i64 1))),()),()) = _
 rw [hsub,i6_nat (by omega)]
 rfl
theorem pbal_eq {n:Nat} {ac al:List Ac} (h:LR n ac al) (hn:n ≤ 1073741824) (v:V4) (a:I .u64):ledger_Ledger_Balance K0 (((al,(v,())),(a,())),()) = some (((getS ac a).2.1,()),()):=by
 refine Wp.out (T:=fun o=>o = some (((getS ac a).2.1,()),())) ?_
 unfold ledger_Ledger_Balance
 exact Wp.optF (pget_eq h hn _ a) rfl
theorem pnon_eq {n:Nat} {ac al:List Ac} (h:LR n ac al) (hn:n ≤ 1073741824) (v:V4) (a:I .u64):ledger_Ledger_Nonce K0 (((al,(v,())),(a,())),()) = some (((getS ac a).2.2.1,()),()):=by
 refine Wp.out (T:=fun o=>o = some (((getS ac a).2.2.1,()),())) ?_
 unfold ledger_Ledger_Nonce
 exact Wp.optF (pget_eq h hn _ a) rfl
end Sym
