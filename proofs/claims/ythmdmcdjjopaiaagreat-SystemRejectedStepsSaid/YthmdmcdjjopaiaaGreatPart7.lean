/- The program's machine, fresh but for its counter: transactions. -/
import Derived.Test.YthmdmcdjjopaiaaGreatRows
import Derived.WalkKit
import Derived.ProofKit
import Derived.Test.YthmdmcdjjopaiaaGreatPart6
namespace Sym
open Go
abbrev HP:Type:=a1B × (a0T × (a0Y × (a0W × (a0U × (List Ac × (List Msg × (List Hs × (List Hs × (List Bool × (List Pay × Unit))))))))))
def eHp (b:U):a0U:=((),((),(b,((),()))))
def E0 (k:I .u64) (pm:Prm) (bk:Blk0) (pr:PrT):a1B:=(k,(pm,(bk,(I.of .u64 0,(pr,((),((),((),()))))))))
noncomputable def E (k:I .u64) (pm:Prm) (bk:Blk0) (pr:PrT):HP:=(E0 k pm bk pr,(lgH Z_S_A4_U,(((),((),())),(((),()),(eHp Z_U,([],([],([],([],([],([],())))))))))))
def TL (n:Nat) (o:Option (((I .i64) × Unit) × (LgH × (List Ac × Unit)))):Prop:=∃ y,o = some y∧∃ ac,LR n ac y.2.2.1
theorem debit_tot {n:Nat} {ac al:List Ac} (h:LR n ac al) (hn:n ≤ 1073741823) (h0:LgH) (a:I .u64) (c:U):TL (n + 1) (ledger_Ledger_debit K0 ((a,(c,())),(h0,(al,())))):=by
 obtain ⟨al',h1,h2⟩:=debit_ok h hn h0.2.1 a c
 exact ⟨_,h1,_,h2⟩
theorem credit_tot {n:Nat} {ac al:List Ac} (h:LR n ac al) (hn:n ≤ 1073741823) (h0:LgH) (a:I .u64) (c:U):∃ y,ledger_Ledger_credit K0 ((a,(c,())),(h0,(al,()))) = some y∧∃ ac,LR (n + 1) ac y.2.2.1:=by
 refine ⟨((),(h0,(insR emp al (setBal (getS ac a) (U.of (min ((getS ac a).2.1.val + c.val) (U.top - 1)))),()))),?_,_,h.put _⟩
 refine Wp.out (T:=fun o=>o = some _) ?_
 unfold ledger_Ledger_credit
 exact Wp.optF (pget_eq h (by omega) _ a) (Wp.optF (uint256_SaturatingAdd_ok _ _) (Wp.optF (pset_eq h hn _ _) rfl))
theorem payV_tot {n:Nat} {ac al:List Ac} (h:LR n ac al) (hn:n ≤ 1073741823) (h0:LgH) (a:I .u64) (k:Nat) (hk:k < 4) (c:U):TL (n + 1) (ledger_Ledger_PayVault K0 ((a,(i6 (k + 1),(c,()))),(h0,(al,())))):=by
 refine Wp.out (T:=fun o=>TL (n + 1) o) ?_
 unfold ledger_Ledger_PayVault
 have hsub:I.sub (i6 (k + 1)) (I.of .i64 1) = i6 k:=i6_sub (m:=1) (by omega) (by omega)
 have hi:inB (I.sub (i6 (k + 1)) (I.of .i64 1)) 4 = true:=by rw [hsub]; exact i6_inB hk (by omega)
 refine Wp.jn (fun x=>x = ((a,(i6 (k + 1),())),(h0,(al,(c,()))))) ?_ (fun j hj=>Wp.brn (fun _=>⟨_,rfl,_,h.mono (by omega)⟩) (fun _=>Wp.optF (isVault_eq k hk) (Wp.brnF rfl (hj _ rfl))))
 rintro x rfl
 refine Wp.call (debit_tot h hn h0 a c) (fun y hy=>Wp.brn (fun _=>⟨_,rfl,hy⟩) (fun _=>Wp.brnT hi (Wp.optF (uint256_SaturatingAdd_ok _ _) (Wp.brnT hi ⟨_,rfl,hy⟩))))
theorem inc_tot {n:Nat} {ac al:List Ac} (h:LR n ac al) (hn:n ≤ 1073741823) (h0:LgH) (a:I .u64):TL (n + 1) (ledger_Ledger_IncrementNonce K0 ((a,()),(h0,(al,())))):=by
 obtain ⟨al',h1,h2⟩:=inc_ok h hn h0.2.1 a
 exact ⟨_,h1,_,h2⟩
theorem tra_tot {n:Nat} {ac al:List Ac} (h:LR n ac al) (hn:n ≤ 1073741822) (h0:LgH) (a b:I .u64) (c:U):TL (n + 2) (ledger_Ledger_Transfer K0 ((a,(b,(c,()))),(h0,(al,())))):=by
 refine Wp.out (T:=fun o=>TL (n + 2) o) ?_
 unfold ledger_Ledger_Transfer
 refine Wp.jn (fun x=>x = ((a,(b,())),(h0,(al,(c,()))))) ?_ (fun j hj=>Wp.brn (fun _=>⟨_,rfl,_,h.mono (by omega)⟩) (fun _=>Wp.brn (fun _=>⟨_,rfl,_,h.mono (by omega)⟩) (fun _=>hj _ rfl)))
 rintro x rfl
 refine Wp.call (debit_tot h (by omega) h0 a c) (fun y ⟨ac',hy⟩=>Wp.brn (fun _=>⟨_,rfl,_,hy.mono (by omega)⟩) (fun _=>Wp.call (credit_tot hy (by omega) _ b c) (fun y hy=>⟨_,rfl,hy⟩)))
theorem pgas_tot (k:Blk0) (p:Prm):Tot (block_GasRemaining K0 ((k,(p,())),())):=by
 refine Wp.out (T:=fun o=>Tot o) ?_
 unfold block_GasRemaining
 exact Wp.brn (fun _=>⟨_,rfl⟩) (fun _=>⟨_,rfl⟩)
theorem puse_tot (k:Blk0) (n:I .u64) (p:Prm):Tot (block_UseGas K0 ((k,(n,(p,()))),())):=by
 refine Wp.out (T:=fun o=>Tot o) ?_
 unfold block_UseGas
 exact Wp.tot (pgas_tot k p) (fun y=>Wp.brn (fun _=>⟨_,rfl⟩) (fun _=>⟨_,rfl⟩))
theorem badd_tot (a b:I .u64):Tot (backlog_Add K0 ((a,(b,())),())):=by
 refine Wp.out (T:=fun o=>Tot o) ?_
 unfold backlog_Add
 obtain ⟨z,q,h,_⟩:=add64_nat a b (I.of .u64 0) (by decide)
 exact Wp.optF h (Wp.brn (fun _=>⟨_,rfl⟩) (fun _=>⟨_,rfl⟩))
section
variable (k:I .u64) (pm:Prm) (bk:Blk0) (pr:PrT)
theorem pchk_tot (t:Txn) (ht:(tData t).length ≤ 1073741824):∃ y:(U × (S_api_Charge × (I .i64 × Unit))) × HP,executor_Machine_checkTransaction K0 ((t,()),E k pm bk pr) = some y∧y.2 = E k pm bk pr∧(I.neb y.1.2.2.1 (I.of .i64 0) = false→(tVal t).val = 0):=by
 refine Wp.out (T:=fun o=>∃ y:(U × (S_api_Charge × (I .i64 × Unit))) × HP,o = some y∧y.2 = E k pm bk pr∧(I.neb y.1.2.2.1 (I.of .i64 0) = false→(tVal t).val = 0)) ?_
 unfold executor_Machine_checkTransaction
 refine Wp.optF (pnon_eq LR.zero (by omega) Z_S_A4_U t.1) ?_
 have no:∀ (p:U) (c:S_api_Charge) (e:I .i64),I.neb e (I.of .i64 0) = true→∃ y,(some ((p,(c,(e,()))),E k pm bk pr):Option ((U × (S_api_Charge × (I .i64 × Unit))) × HP)) = some y∧y.2 = E k pm bk pr∧(I.neb y.1.2.2.1 (I.of .i64 0) = false→(tVal t).val = 0) :=
  fun p c e h=>⟨_,rfl,rfl,fun g=>absurd (h.symm.trans g) (by decide)⟩
 refine Wp.jn (fun x=>(tData t).length ≤ 4096∧x = ((),(E0 k pm bk pr,(lgH Z_S_A4_U,([],(((),((),())),([],(((),()),([],(eHp Z_U,([],([],([],(t,(Z_U,(a0R,())))))))))))))))) ?_ ?_
 ·
  rintro x ⟨hd,rfl⟩
  refine Wp.optF (txfee_GasPrice_eq t.1 t.2.1 t.2.2.1 t.2.2.2.2.1 t.2.2.2.2.2.2.2.1 t.2.2.2.2.2.2.2.2.1 (tVal t) (tCap t) (tTip t) (bFee bk)) (Wp.brn (fun h=>no _ _ _ h) (fun _=>Wp.tot (pgas_tot bk pm) (fun y=>Wp.brn (fun _=>no _ _ _ (by decide)) (fun _=>?_))))
  refine Wp.optF (pbal_eq LR.zero (by omega) Z_S_A4_U t.1) (Wp.optF (cov_eq t.1 t.2.1 t.2.2.1 (tLim t) t.2.2.2.2.2.2.2.1 t.2.2.2.2.2.2.2.2.1 (tVal t) (tCap t) (tTip t) (gasS (tCap t,tTip t) (bFee bk)).1 (getS [] t.1).2.1) (Wp.brn (fun _=>no _ _ _ (by decide)) (fun h=>?_)))
  have h:coverB (tLim t) (gasS (tCap t,tTip t) (bFee bk)).1 (tVal t) (getS [] t.1).2.1 = true:=bntF h
  have h:=of_decide_eq_true h
  have hz:((getS [] t.1).2.1).val = 0:=rfl
  exact Wp.optF (Compute_eq t.1 t.2.1 t.2.2.1 (tLim t) (tEx t) (tData t) (tVal t) (tCap t) (tTip t) (bFee bk) pr.1 pm (by omega)) ⟨_,rfl,rfl,fun _=>by omega⟩
 ·
  intro j hj
  refine Wp.brn (fun _=>no _ _ _ (by decide)) (fun hd=>?_)
  have hd:I.ltb (I.of .i64 4096) (I.ofNat .i64 (a1I (tData t))) = false:=hd
  have hd:(tData t).length ≤ 4096:=by
   have e:I.ltb (I.of .i64 4096) (I.ofNat .i64 (a1I (tData t))) = decide (4096 < (tData t).length):=i6_ltb (n:=4096) (by omega) (by show (tData t).length < _; omega)
   rw [e] at hd; have:=of_decide_eq_false hd; omega
  refine Wp.jn (fun x=>x.2 = (E0 k pm bk pr,(lgH Z_S_A4_U,([],(((),((),())),([],(((),()),([],(eHp Z_U,([],([],([],(t,(Z_U,(a0R,()))))))))))))))) ?_ (fun j2 hj2=>Wp.brn (fun _=>hj2 _ rfl) (fun _=>Wp.brn (fun _=>hj2 _ rfl) (fun _=>hj2 _ rfl)))
  rintro ⟨x,y⟩ rfl
  exact Wp.brn (fun _=>no _ _ _ (by decide)) (fun _=>Wp.brn (fun _=>no _ _ _ (by decide)) (fun _=>Wp.brn (fun _=>no _ _ _ (by decide)) (fun _=>hj _ ⟨hd,rfl⟩)))
theorem trv_tot {n:Nat} {ac:List Ac} (t:Txn) (hv:(tVal t).val = 0) (h:HP) (hl:LR n ac h.2.2.2.2.2.1) (hn:n ≤ 1073741822):Tot (executor_Machine_transferValue K0 ((t,()),h)):=by
 refine Wp.out (T:=fun o=>Tot o) ?_
 unfold executor_Machine_transferValue
 refine Wp.brn (fun _=>Wp.call (tra_tot hl hn h.2.1 t.1 t.2.2.1 (tVal t)) (fun y _=>⟨_,rfl⟩)) (fun _=>Wp.brnT ?_ ⟨_,rfl⟩)
 show Ty.eqb a1A (tVal t) Z_U = true
 rw [eqb_u256]
 exact decide_eq_true hv
def Q (M:HP) (o:Option ((Rcp × (I .i64 × Unit)) × HP)):Prop:=∃ y,o = some y∧(I.neb y.1.2.1 (I.of .i64 0) = true→y.2 = M)∧(I.neb y.1.2.1 (I.of .i64 0) = false→I.eqb y.1.1.2.1 (I.of .i64 0) = true)
theorem Q.err {M:HP} {r:Rcp} {e:I .i64} (h:I.neb e (I.of .i64 0) = true):Q M (some ((r,(e,())),M)):=⟨_,rfl,fun _=>rfl,fun g=>absurd (h.symm.trans g) Bool.noConfusion⟩
theorem Q.ok {M N:HP} {r:Rcp} (h:r.2.1 = I.of .i64 0):Q M (some ((r,(I.of .i64 0,())),N)):=⟨_,rfl,fun h=>absurd h (show ¬ I.neb (I.of .i64 0) (I.of .i64 0) = true by decide),fun _=>by show I.eqb r.2.1 _ = true; rw [h]; rfl⟩
theorem ptx_tot (s:S_api_Step) (ht:(tData s.2.1).length ≤ 1073741824) (hp:pr.posters.length ≤ 1073741824):Q (E k pm bk pr) (executor_Machine_transaction K0 ((s,()),E k pm bk pr)):=by
 refine Wp.out (T:=fun o=>Q (E k pm bk pr) o) ?_
 unfold executor_Machine_transaction
 refine Wp.call (pchk_tot k pm bk pr s.2.1 ht) ?_
 rintro ⟨y,m⟩ ⟨hm,hv⟩
 have hm:m = E k pm bk pr:=hm
 subst hm
 refine Wp.brn (fun h=>Q.err h) (fun h1=>?_)
 have hv:=hv h1
 refine Wp.optF (AddUnits_eq pr _ hp) (Wp.brn (fun h=>Q.err h) (fun h2=>Wp.tot (puse_tot bk _ pm) (fun z=>Wp.brn (fun h=>Q.err h) (fun h3=>?_))))
 refine Wp.call (payV_tot LR.zero (by omega) _ _ 2 (by omega) _) (fun z1 ⟨a1,l1⟩=>Wp.call (payV_tot l1 (by omega) _ _ 1 (by omega) _) (fun z2 ⟨a2,l2⟩=>Wp.call (payV_tot l2 (by omega) _ _ 0 (by omega) _) (fun z3 ⟨a3,l3⟩=>Wp.call (payV_tot l3 (by omega) _ _ 3 (by omega) _) (fun z4 ⟨a4,l4⟩=>Wp.call (inc_tot l4 (by omega) _ _) (fun z5 ⟨a5,l5⟩=>Wp.tot (badd_tot _ _) (fun z6=>?_))))))
 refine Wp.jn (fun x=>(∃ n ac,n ≤ 1000∧LR n ac x.2.2.2.1)∧x.2.2.2.2.2.2.2.2.2.2.2.2.2.2.1 = s.2.1∧x.2.2.2.2.2.2.2.2.2.2.2.2.2.2.2.1.2.1 = I.of .i64 0) ?_ (fun j hj=>Wp.brn (fun _=>hj _ ⟨⟨_,_,by omega,l5⟩,rfl,rfl⟩) (fun _=>hj _ ⟨⟨_,_,by omega,l5⟩,rfl,rfl⟩))
 rintro x ⟨⟨n,ac,hn,hl⟩,ht,h0⟩
 refine Wp.brn (fun _=>Wp.tot (trv_tot _ (by rw [ht]; exact hv) (_,(_,(_,(_,(_,(_,_)))))) hl (by omega)) (fun z=>Q.ok h0)) (fun _=>Q.ok h0)
end
end Sym

/- The program's machine, fresh but for its counter: the other steps. -/
namespace Sym
open Go
theorem drn0 (b c:I .u64):backlog_Drain K0 ((I.of .u64 0,(b,(c,()))),()) = some ((I.of .u64 0,()),()):=by
 refine Wp.out (T:=fun o=>o = some ((I.of .u64 0,()),())) ?_
 unfold backlog_Drain
 obtain ⟨hi,lo,h,_⟩:=Mul64_ok b c
 refine Wp.optF h (Wp.brn (fun _=>rfl) (fun _=>Wp.brn (fun _=>rfl) (fun h2=>?_)))
 have h2:lo.val ≤ 0:=niff_ltb.1 h2
 have:=u64_range lo
 have e:lo = I.of .u64 0:=I.ext' (by show lo.val = 0; omega)
 rw [e]
 rfl
theorem pnext_tot (a:Blk0) (b:I .u64) (p:Prm) (hf:Tot (basefee_Fee K0 ((I.of .u64 0,(p,())),()))):Tot (block_Next K0 ((a,(b,(I.of .u64 0,(p,())))),())):=by
 refine Wp.out (T:=fun o=>Tot o) ?_
 unfold block_Next
 obtain ⟨z,q,h,_⟩:=add64_nat a.1 (I.of .u64 1) (I.of .u64 0) (by decide)
 obtain ⟨z',q',h',_⟩:=add64_nat a.2.1 b (I.of .u64 0) (by decide)
 refine Wp.optF h (Wp.optF h' ?_)
 refine Wp.jn (fun x=>x.1.1 = I.of .u64 0∧x.2.1 = p) ?_ ?_
 ·
  rintro ⟨⟨x,x'⟩,⟨y,y'⟩⟩ ⟨h1,h2⟩
  have h1:x = I.of .u64 0:=h1
  have h2:y = p:=h2
  subst h1 h2
  exact Wp.tot hf (fun _=>Wp.brn (fun _=>⟨_,rfl⟩) (fun _=>⟨_,rfl⟩))
 ·
  intro j hj
  refine Wp.jn (fun x=>x.1.1 = I.of .u64 0∧x.2.1 = p) ?_ (fun j hj=>Wp.brn (fun _=>hj _ ⟨rfl,rfl⟩) (fun _=>hj _ ⟨rfl,rfl⟩))
  rintro ⟨⟨x,x'⟩,⟨y,y'⟩⟩ h
  exact Wp.brn (fun _=>⟨_,rfl⟩) (fun _=>Wp.optF (PrmValid_eq _) (Wp.brn (fun _=>⟨_,rfl⟩) (fun _=>Wp.brn (fun _=>⟨_,rfl⟩) (fun _=>Wp.brn (fun _=>⟨_,rfl⟩) (fun _=>hj _ h)))))
theorem brnL_tot {Y:Type} (b:I .i64) (l:List (Int × Option Y)) (d:Option Y) (h:∀ x ∈ l,Tot x.2) (hd:Tot d):Tot (brnL b l d):=by
 induction l with
 | nil=>exact hd
 | cons x l ih =>
  refine Wp.out (T:=fun o=>Tot o) ?_
  show Wp _ (brn (I.eqb b (I.of .i64 x.1)) x.2 (brnL b l d))
  exact Wp.brn (fun _=>h x (by simp)) (fun _=>ih (fun y hy=>h y (by simp [hy])))
theorem brnM_tot {A Y:Type} (b:I .i64) (l:List (Int × A)) (g:Int × A→Option Y) (d:Option Y) (h:∀ x,Tot (g x)) (hd:Tot d):Tot (brnL b (l.map fun x=>(x.1,g x)) d) :=
 brnL_tot b _ d (fun x hx=>by obtain ⟨y,_,rfl⟩:=List.mem_map.1 hx; exact h y) hd
theorem pmV_tot (u:Prm):Tot (pmV K0 u):=by
 refine Wp.out (T:=fun o=>Tot o) ?_
 unfold pmV
 exact Wp.optF (PrmValid_eq u) (Wp.brn (fun _=>⟨_,rfl⟩) (fun _=>⟨_,rfl⟩))
theorem pmL_tot (u:Prm) {r:PmR} (h:Tot r):Tot (pmL K0 u r):=by
 refine Wp.out (T:=fun o=>Tot o) ?_
 unfold pmL
 exact Wp.optF (PrmValid_eq u) (Wp.brn (fun _=>⟨_,rfl⟩) (fun _=>h))
theorem pm64_tot (a u:Prm) (q:Bool):Tot (pmL K0 a (brn q (pmErr 15) (pmV K0 u))):=by
 refine pmL_tot a ?_
 cases q
 ·
  exact pmV_tot u
 ·
  exact ⟨_,rfl⟩
theorem pset_tot (a:Prm) (b:I .i64) (c:U):Tot (params_Set K0 ((a,(b,(c,()))),())):=by
 refine Wp.out (T:=fun o=>Tot o) ?_
 unfold params_Set
 refine Wp.tot ⟨_,UUint64_eq c⟩ (fun y=>?_)
 exact brnM_tot b (pm256 a c) (fun g=>brnL b ((pm64 a y.1.1).map fun s=>(s.1,pmL K0 a (brn (bnot y.1.2.1) (pmErr 15) (pmV K0 g.2)))) (pmL K0 a (pmV K0 g.2))) _
  (fun g=>brnM_tot b (pm64 a y.1.1) (fun s=>pmL K0 a (brn (bnot y.1.2.1) (pmErr 15) (pmV K0 g.2))) _ (fun s=>pm64_tot a g.2 _) (pmL_tot a (pmV_tot g.2)))
  (brnM_tot b (pm64 a y.1.1) (fun s=>pmL K0 a (brn (bnot y.1.2.1) (pmErr 15) (pmV K0 s.2))) _ (fun s=>pm64_tot a s.2 _) ⟨_,rfl⟩)
theorem pdep_tot (a b:U) (r cd pd):Tot (escrow_Escrow_Deposit K0 ((a,()),(eHp b,(r,(cd,(pd,()))))) ):=by
 refine Wp.out (T:=fun o=>Tot o) ?_
 unfold escrow_Escrow_Deposit
 exact Wp.brn (fun _=>⟨_,rfl⟩) (fun _=>Wp.optF (uint256_Add_eq b a) (Wp.brn (fun _=>⟨_,rfl⟩) (fun _=>⟨_,rfl⟩)))
theorem sup0:ledger_Ledger_Supply K0 ((([],(Z_S_A4_U,())),()),()) = some ((U.of 0,()),()):=by
 have h:balN [] + vauN Z_S_A4_U = 0:=rfl
 have e:=psup_ok [] Z_S_A4_U (by simp) (by rw [h]; decide)
 rw [h] at e
 exact e
theorem pmint_tot (a:I .u64) (b:U):Tot (ledger_Ledger_Mint K0 ((a,(b,())),(lgH Z_S_A4_U,([],())))):=by
 refine Wp.out (T:=fun o=>Tot o) ?_
 unfold ledger_Ledger_Mint
 exact Wp.brn (fun _=>⟨_,rfl⟩) (fun _=>Wp.optF sup0 (Wp.optF (uint256_Add_eq _ b) (Wp.brn (fun _=>⟨_,rfl⟩) (fun _=>Wp.call (credit_tot LR.zero (by omega) _ a b) (fun y _=>⟨_,rfl⟩)))))
section
variable (k:I .u64) (pm:Prm) (bk:Blk0) (pr:PrT)
theorem prep_tot (s:S_api_Step) (hp:pr.posters = []):Q (E k pm bk pr) (executor_Machine_report K0 ((s,()),E k pm bk pr)):=by
 refine Wp.out (T:=fun o=>Q (E k pm bk pr) o) ?_
 unfold executor_Machine_report
 refine Wp.optF (pvault_eq [] Z_S_A4_U 2 (by omega)) (Wp.optF (Report_eq pr pm _ s.2.2.1 bk.2.1 (by rw [hp]; simp)) ?_)
 generalize vGet Z_S_A4_U 2 = pool
 have hc:(checkS pr pm s.2.2.1 bk.2.1).val ≠ 0:=fun h=>by
  have:=(check_zero h).fnd
  rw [hp] at this
  exact absurd this (Nat.not_lt_zero _)
 have e:reportS pr pm pool s.2.2.1 bk.2.1 = (zPr,zOut,checkS pr pm s.2.2.1 bk.2.1):=by unfold reportS; exact if_neg hc
 have hn:I.neb (reportS pr pm pool s.2.2.1 bk.2.1).2.2 (I.of .i64 0) = true:=by rw [e]; exact iff_neb.2 hc
 exact Wp.brnT hn (Q.err hn)
theorem ptic_tot (s:S_api_Step) (hf:Tot (basefee_Fee K0 ((I.of .u64 0,(pm,())),()))):Q (E k pm bk pr) (executor_Machine_tick K0 ((s,()),E k pm bk pr)):=by
 refine Wp.out (T:=fun o=>Q (E k pm bk pr) o) ?_
 unfold executor_Machine_tick
 exact Wp.optF (drn0 _ _) (Wp.tot (pnext_tot bk _ pm hf) (fun y=>Wp.brn (fun h=>Q.err h) (fun _=>Q.ok rfl)))
theorem pprm_tot (s:S_api_Step):Q (E k pm bk pr) (executor_Machine_setParam K0 ((s,()),E k pm bk pr)):=by
 refine Wp.out (T:=fun o=>Q (E k pm bk pr) o) ?_
 unfold executor_Machine_setParam
 exact Wp.tot (pset_tot pm _ _) (fun y=>Wp.brn (fun h=>Q.err h) (fun _=>Q.ok rfl))
theorem ppos_tot (s:S_api_Step) (hp:pr.posters.length ≤ 1073741824):Q (E k pm bk pr) (executor_Machine_addPoster K0 ((s,()),E k pm bk pr)):=by
 refine Wp.out (T:=fun o=>Q (E k pm bk pr) o) ?_
 unfold executor_Machine_addPoster
 exact Wp.optF (AddPoster_eq pr _ hp) (Wp.brn (fun h=>Q.err h) (fun _=>Q.ok rfl))
theorem pdps_tot (s:S_api_Step):Q (E k pm bk pr) (executor_Machine_deposit K0 ((s,()),E k pm bk pr)):=by
 refine Wp.out (T:=fun o=>Q (E k pm bk pr) o) ?_
 unfold executor_Machine_deposit
 have er:∀ n:Int,I.neb (I.of .i64 n) (I.of .i64 0) = true→Q (E k pm bk pr) (some ((errR (I.of .i64 0),(I.of .i64 n,())),E k pm bk pr)):=fun n h=>Q.err h
 refine Wp.jn (fun x=>∃ u,x = ((),(E0 k pm bk pr,(lgH Z_S_A4_U,([],(((),((),())),([],(((),()),([],(eHp Z_U,([],([],([],(s,u)))))))))))))) ?_ (fun j hj=>Wp.brn (fun _=>er 2 (by decide)) (fun _=>Wp.brn (fun _=>er 2 (by decide)) (fun _=>Wp.brn (fun _=>er 2 (by decide)) (fun _=>hj _ ⟨_,rfl⟩))))
 rintro x ⟨u,rfl⟩
 refine Wp.optF (show escrow_Escrow_Balance K0 _ = some ((Z_U,()),()) from rfl) (Wp.optF (uint256_Add_eq Z_U s.2.2.2.2.2.1) (Wp.optF sup0 (Wp.optF (uint256_Add_eq (U.of 0) s.2.2.2.2.2.1) ?_)))
 refine Wp.jn (fun x=>∃ u,x = ((),(E0 k pm bk pr,(lgH Z_S_A4_U,([],(((),((),())),([],(((),()),([],(eHp Z_U,([],([],([],(s,u)))))))))))))) ?_ (fun j hj=>Wp.brn (fun _=>er 4 (by decide)) (fun _=>Wp.brn (fun _=>er 4 (by decide)) (fun _=>hj _ ⟨_,rfl⟩)))
 rintro x ⟨u,rfl⟩
 exact Wp.tot (pdep_tot s.2.2.2.2.2.1 Z_U [] [] []) (fun y=>Wp.tot (pmint_tot s.2.2.2.2.2.2.1 s.2.2.2.2.2.1) (fun z=>Q.ok rfl))
theorem pclm0 (c:S_api_Claim):∃ e:I .i64,I.neb e (I.of .i64 0) = true∧escrow_Escrow_checkClaim K0 ((c,()),(eHp Z_U,([],([],([],()))))) = some ((e,()),(eHp Z_U,([],([],([],()))))):=by
 have key:∃ y,escrow_Escrow_checkClaim K0 ((c,()),(eHp Z_U,([],([],([],()))))) = some y∧y.2 = (eHp Z_U,([],([],([],()))))∧I.neb y.1.1 (I.of .i64 0) = true:=by
  refine Wp.out (T:=fun o:Option ((I .i64 × Unit) × (a0U × (List Hs × (List Bool × (List Pay × Unit)))))=>∃ y,o = some y∧y.2 = (eHp Z_U,([],([],([],()))))∧I.neb y.1.1 (I.of .i64 0) = true) ?_
  unfold escrow_Escrow_checkClaim
  refine Wp.jn (fun _=>False) (fun _ h=>h.elim) (fun j _=>?_)
  refine Wp.jn (fun x=>x.2 = (eHp Z_U,([],([],([],(c,())))))) ?_ (fun j hj=>Wp.brn (fun _=>hj _ rfl) (fun _=>Wp.brn (fun _=>hj _ rfl) (fun _=>hj _ rfl)))
  rintro ⟨x,y⟩ rfl
  refine Wp.brn (fun _=>⟨_,rfl,rfl,show I.neb (I.of .i64 2) (I.of .i64 0) = true from rfl⟩) (fun _=>?_)
  refine Wp.jn (fun x=>x.1.1 = true∧x.2 = (eHp Z_U,([],([],([],(c,())))))) ?_ (fun j hj=>?_)
  ·
   rintro ⟨⟨x,x'⟩,y⟩ ⟨h,rfl⟩
   exact Wp.brnT h ⟨_,rfl,rfl,show I.neb (I.of .i64 8) (I.of .i64 0) = true from rfl⟩
  ·
   refine Wp.brn (fun _=>hj _ ⟨rfl,rfl⟩) (fun h=>Wp.brnT ?_ (hj _ ⟨rfl,rfl⟩))
   have h:(1:Int) ≤ (cSize c).val:=niff_ltb.1 h
   show I.ltb (I.of .u64 0) (cSize c) = true
   exact iff_ltb.2 (by show (0:Int) < (cSize c).val; omega)
 obtain ⟨⟨⟨e,⟨⟩⟩,m⟩,h1,h2,h3⟩:=key
 exact ⟨e,h3,h1.trans (by rw [show m = _ from h2]; rfl)⟩
theorem pclm_tot (s:S_api_Step):Q (E k pm bk pr) (executor_Machine_claim K0 ((s,()),E k pm bk pr)):=by
 refine Wp.out (T:=fun o=>Q (E k pm bk pr) o) ?_
 unfold executor_Machine_claim
 obtain ⟨e,he,h⟩:=pclm0 s.2.2.2.2.2.2.2.1
 have hc:escrow_Escrow_Claim K0 ((s.2.2.2.2.2.2.2.1,()),(eHp Z_U,([],([],([],()))))) = some ((e,()),(eHp Z_U,([],([],([],()))))):=by
  refine Wp.out (T:=fun o=>o = _) ?_
  unfold escrow_Escrow_Claim
  exact Wp.optF h (Wp.brnT he rfl)
 exact Wp.optF hc (Q.err he)
end
end Sym

/- Decoding a step is total. -/
namespace Sym
open Go
abbrev RdT:Type:=List (I .u8) × (I .i64 × (Bool × Unit))
def WR (b:Byt) (h:RdT):Prop:=∃ i f,i ≤ b.length∧h = (b,(i6 i,(f,())))
def RdK {A:Type} (b:Byt) (P:A→Prop) (o:Option (A × (RdT × Unit))):Prop:=∃ y,o = some y∧WR b y.2.1∧P y.1
section
variable {b:Byt} {h:RdT} (hb:b.length ≤ 100000) (hw:WR b h)
theorem adv_ok {i j:Nat} {f:Bool} {e:I .i64} (hi:i ≤ b.length) (hj:I.neb e (I.of .i64 0) = false→j ≤ b.length):RdK b (fun _=>True) (wirereader_Reader_advance K0 ((i6 j,(e,())),((b,(i6 i,(f,()))),()))):=by
 refine Wp.out (T:=fun o=>RdK b (fun _=>True) o) ?_
 unfold wirereader_Reader_advance
 exact Wp.brn (fun _=>⟨_,rfl,⟨i,_,hi,rfl⟩,trivial⟩) (fun _=>Wp.brn (fun _=>⟨_,rfl,⟨i,_,hi,rfl⟩,trivial⟩) (fun h=>⟨_,rfl,⟨j,_,hj h,rfl⟩,trivial⟩))
theorem rdO_lt (i m:Nat):∃ (u:U) (j:Nat) (e:I .i64),rdO (rdU b i m) = (u,(i6 j,(e,())))∧j ≤ b.length:=by
 cases hU:rdU b i m with
 | none=>exact ⟨_,0,_,rfl,Nat.zero_le _⟩
 | some y=>exact ⟨_,y.2,_,rfl,(rdU_some (n:=y.1) (j:=y.2) hU).2.1⟩
include hb hw
theorem u64_rd:RdK b (fun _=>True) (a1D K0 ((),(h,()))):=by
 obtain ⟨i,f,hi,rfl⟩:=hw
 refine Wp.out (T:=fun o=>RdK b (fun _=>True) o) ?_
 unfold a1D
 obtain ⟨u,j,e,hr,hj⟩:=rdO_lt (b:=b) i 8
 have h1:=wRead b i 8 hi (by omega) (by omega)
 rw [hr] at h1
 have h2:wire_ReadUint64 K0 ((b,(i6 i,())),()) = some ((u.1,(i6 j,(e,()))),()):=by
  refine Wp.out (T:=fun o=>o = some ((u.1,(i6 j,(e,()))),())) ?_
  unfold wire_ReadUint64
  exact Wp.optF h1 rfl
 exact Wp.optF h2 (Wp.call (adv_ok hi fun _=>hj) (fun y hy=>Wp.brn (fun _=>⟨_,rfl,hy.1,trivial⟩) (fun _=>⟨_,rfl,hy.1,trivial⟩)))
theorem u256_rd:RdK b (fun _=>True) (a2C K0 ((),(h,()))):=by
 obtain ⟨i,f,hi,rfl⟩:=hw
 refine Wp.out (T:=fun o=>RdK b (fun _=>True) o) ?_
 unfold a2C
 obtain ⟨u,j,e,hr,hj⟩:=rdO_lt (b:=b) i 32
 have h1:=wRead b i 32 hi (by omega) (by omega)
 rw [hr] at h1
 have h2:wire_ReadUint256 K0 ((b,(i6 i,())),()) = some ((u,(i6 j,(e,()))),()):=by
  refine Wp.out (T:=fun o=>o = some ((u,(i6 j,(e,()))),())) ?_
  unfold wire_ReadUint256
  exact Wp.optF h1 rfl
 exact Wp.optF h2 (Wp.call (adv_ok hi fun _=>hj) (fun y hy=>Wp.brn (fun _=>⟨_,rfl,hy.1,trivial⟩) (fun _=>⟨_,rfl,hy.1,trivial⟩)))
theorem byt_rd:RdK b (fun y:Byt × Unit=>y.1.length ≤ b.length) (wirereader_Reader_Bytes K0 ((),(h,()))):=by
 obtain ⟨i,f,hi,rfl⟩:=hw
 refine Wp.out (T:=fun o=>RdK b (fun y:Byt × Unit=>y.1.length ≤ b.length) o) ?_
 unfold wirereader_Reader_Bytes
 have h1:=wReadB b i hi (by omega)
 obtain ⟨x,j,e,hr,hj,hx⟩:∃ (x:Byt) (j:Nat) (e:I .i64),rdP (rdB b i) = (x,(i6 j,(e,())))∧j ≤ b.length∧x.length ≤ b.length:=by
  unfold rdB
  cases hU:rdU b i 8 with
  | none=>exact ⟨_,0,_,rfl,Nat.zero_le _,Nat.zero_le _⟩
  | some y =>
   have:=(rdU_some (n:=y.1) (j:=y.2) hU).2.1
   show ∃ x j e,rdP (if y.1 ≤ b.length - y.2 then some (subL b y.2 y.1,y.2 + y.1) else none) = _∧_
   by_cases g:y.1 ≤ b.length - y.2
   ·
    rw [if_pos g]
    exact ⟨_,y.2 + y.1,_,rfl,by omega,by simp only [subL,List.length_take,List.length_drop]; omega⟩
   ·
    rw [if_neg g]
    exact ⟨_,0,_,rfl,Nat.zero_le _,Nat.zero_le _⟩
 rw [hr] at h1
 exact Wp.optF h1 (Wp.call (adv_ok hi fun _=>hj) (fun y hy=>Wp.brn (fun _=>⟨_,rfl,hy.1,Nat.zero_le _⟩) (fun _=>⟨_,rfl,hy.1,hx⟩)))
theorem one_rd:RdK b (fun _=>True) (wirereader_Reader_Byte K0 ((),(h,()))):=by
 obtain ⟨i,f,hi,rfl⟩:=hw
 refine Wp.out (T:=fun o=>RdK b (fun _=>True) o) ?_
 unfold wirereader_Reader_Byte
 refine Wp.jn (fun x=>i < b.length∧x = ((),((b,(i6 i,(f,()))),()))) ?_ (fun j hj=>Wp.brn (fun _=>⟨_,rfl,⟨i,_,hi,rfl⟩,trivial⟩) (fun _=>Wp.brn (fun _=>⟨_,rfl,⟨i,_,hi,rfl⟩,trivial⟩) (fun g=>hj _ ⟨?_,rfl⟩)))
 ·
  rintro x ⟨g,rfl⟩
  have e1:I.add (i6 i) (I.of .i64 1) = i6 (i + 1):=i6_add (m:=1) (by omega)
  have e2:I.sub (I.add (i6 i) (I.of .i64 1)) (I.of .i64 1) = i6 i:=by rw [e1]; exact i6_sub (m:=1) (by omega) (by omega)
  refine Wp.brnT (by show inB (I.sub (I.add (i6 i) (I.of .i64 1)) (I.of .i64 1)) b.length = true; rw [e2]; exact i6_inB g (by omega)) ⟨_,rfl,⟨i + 1,f,g,?_⟩,trivial⟩
  show (b,(I.add (i6 i) (I.of .i64 1),(f,()))) = _
  rw [e1]
 ·
  have g:(i6 i).val < (i6 b.length).val:=niff_leb.1 g
  rw [a1J (by omega),a1J (by omega)] at g
  omega
theorem hsh_rd:RdK b (fun _=>True) (wirereader_Reader_Hash K0 ((),(h,()))):=by
 refine Wp.out (T:=fun o=>RdK b (fun _=>True) o) ?_
 unfold wirereader_Reader_Hash
 refine Wp.iter (fun x=>∃ i,i ≤ 32∧x.1.1 = i6 i∧WR b x.2.1) (fun x=>32 - x.1.1.val.toNat) ?_ ⟨0,by omega,rfl,hw⟩ (by rw [K0_eq]; show 32 - 0 < _; decide)
 rintro ⟨⟨j,⟨⟩⟩,x,y⟩ ⟨i,hi,e,hx⟩
 have e:j = i6 i:=e
 subst e
 refine Wp.brn (fun g=>?_) (fun _=>Wp.done ⟨_,rfl,hx,trivial⟩)
 have g:i < 32:=of_decide_eq_true ((i6_ltb (m:=32) (by omega) (by omega)).symm.trans g)
 have hn:I.add (i6 i) (I.of .i64 1) = i6 (i + 1):=i6_add (m:=1) (by omega)
 refine Wp.call (one_rd hb hx) (fun z hz=>Wp.brnT (i6_inB g (by omega)) (Wp.again ⟨i + 1,g,hn,hz.1⟩ ?_))
 show 32 - (I.add (i6 i) (I.of .i64 1)).val.toNat < 32 - (i6 i).val.toNat
 rw [hn,a1J (by omega),a1J (by omega)]; omega
theorem prf_rd:RdK b (fun _=>True) (step_readProof K0 ((),(h,()))):=by
 refine Wp.out (T:=fun o=>RdK b (fun _=>True) o) ?_
 unfold step_readProof
 refine Wp.call (u64_rd hb hw) (fun y hy=>Wp.brn (fun _=>⟨_,rfl,hy.1,trivial⟩) (fun g=>?_))
 obtain ⟨⟨n,⟨⟩⟩,h',⟨⟩⟩:=y
 have hy:=hy.1
 have g:n.val ≤ 64:=niff_ltb.1 g
 have hn:=u64_range n
 refine Wp.iter (fun x=>x.1.1 = n∧WR b x.2.1∧x.2.2.1.length = x.1.2.1.val.toNat∧x.2.2.1.length ≤ 64) (fun x=>64 - x.1.2.1.val.toNat) ?_ ⟨rfl,hy,rfl,Nat.zero_le _⟩ (by rw [K0_eq]; show 64 - 0 < _; decide)
 rintro ⟨⟨m,c,⟨⟩⟩,x,l,⟨⟩⟩ ⟨e,hx,hl,hl2⟩
 have e:m = n:=e
 have hl:l.length = c.val.toNat:=hl
 have hl2:l.length ≤ 64:=hl2
 subst e
 have hc:=u64_range c
 refine Wp.brn (fun q=>?_) (fun _=>Wp.done ⟨_,rfl,hx,trivial⟩)
 have q:c.val < m.val:=iff_ltb.1 q
 have ha:(I.add c (I.of .u64 1)).val = c.val + 1:=add_u64 (by show c.val + 1 < _; omega)
 refine Wp.call (hsh_rd hb hx) (fun z hz=>Wp.brnT (fitsA _ _ (by show l.length + 1 ≤ _; omega)) (Wp.again ⟨rfl,hz.1,?_,?_⟩ ?_))
 ·
  show (l ++ [_]).length = (I.add c (I.of .u64 1)).val.toNat
  rw [ha,List.length_append,hl]
  show c.val.toNat + 1 = _
  omega
 ·
  show (l ++ [_]).length ≤ 64
  rw [List.length_append,hl]
  show c.val.toNat + 1 ≤ 64
  omega
 ·
  show 64 - (I.add c (I.of .u64 1)).val.toNat < 64 - c.val.toNat
  rw [ha]; omega
omit hb hw
theorem don_tot (h:RdT):Tot (a2F K0 ((h,()),())):=by
 refine Wp.out (T:=fun o=>Tot o) ?_
 unfold a2F
 exact Wp.brn (fun _=>⟨_,rfl⟩) (fun _=>⟨_,rfl⟩)
theorem new_rd:RdK b (fun _=>True) (wirereader_New K0 ((b,()),())):=⟨_,rfl,⟨0,false,Nat.zero_le _,rfl⟩,trivial⟩
end
abbrev TxR:Type:=(Txn × (I .i64 × Unit)) × Unit
theorem txd_tot (b:Byt) (hb:b.length ≤ 100000):∃ y,tx_Decode K0 ((b,()),()) = some y∧(tData y.1.1).length ≤ 100000:=by
 refine Wp.out (T:=fun o:Option TxR=>∃ y,o = some y∧(tData y.1.1).length ≤ 100000) ?_
 unfold tx_Decode
 refine Wp.call new_rd (fun y0 h0=>Wp.call (u64_rd hb h0.1) (fun y1 h1=>Wp.call (u64_rd hb h1.1) (fun y2 h2=>Wp.call (u64_rd hb h2.1) (fun y3 h3=>Wp.call (u256_rd hb h3.1) (fun y4 h4=>Wp.call (u64_rd hb h4.1) (fun y5 h5=>Wp.call (u256_rd hb h5.1) (fun y6 h6=>Wp.call (u256_rd hb h6.1) (fun y7 h7=>Wp.call (u64_rd hb h7.1) (fun y8 h8=>Wp.call (byt_rd hb h8.1) (fun y9 h9=>Wp.tot (don_tot _) (fun y10=>Wp.brn (fun _=>⟨_,rfl,Nat.zero_le _⟩) (fun _=>Wp.brn (fun _=>⟨_,rfl,Nat.zero_le _⟩) (fun _=>⟨_,rfl,Nat.le_trans h9.2 hb⟩)))))))))))))
abbrev StR:Type:=(S_api_Step × (I .i64 × Unit)) × Unit
theorem std_tot (b:Byt) (hb:b.length ≤ 100000):∃ y,step_Decode K0 ((b,()),()) = some y∧(tData y.1.1.2.1).length ≤ 100000:=by
 refine Wp.out (T:=fun o:Option StR=>∃ y,o = some y∧(tData y.1.1.2.1).length ≤ 100000) ?_
 unfold step_Decode
 have z:∀ (s:S_api_Step) (e:I .i64),tData s.2.1 = []→∃ y:StR,some ((s,(e,())),()) = some y∧(tData y.1.1.2.1).length ≤ 100000:=fun s e h=>⟨_,rfl,by show (tData s.2.1).length ≤ _; rw [h]; exact Nat.zero_le _⟩
 refine Wp.brn (fun _=>z _ _ rfl) (fun _=>Wp.call new_rd (fun y0 h0=>Wp.call (one_rd hb h0.1) (fun y1 h1=>?_)))
 refine Wp.brn (fun _=>?_) (fun _=>Wp.brn (fun _=>?_) (fun _=>Wp.brn (fun _=>?_) (fun _=>Wp.brn (fun _=>?_) (fun _=>Wp.brn (fun _=>?_) (fun _=>Wp.brn (fun _=>?_) (fun _=>Wp.brn (fun _=>?_) (fun _=>z _ _ rfl)))))))
 ·
  refine Wp.call (byt_rd hb h1.1) (fun y2 h2=>Wp.call (txd_tot y2.1.1 (Nat.le_trans h2.2 hb)) (fun y3 h3=>Wp.brn (fun _=>z _ _ rfl) (fun _=>Wp.tot (don_tot _) (fun y4=>Wp.brn (fun _=>z _ _ rfl) (fun _=>⟨_,rfl,h3⟩)))))
 ·
  exact Wp.call (u64_rd hb h1.1) (fun y2 h2=>Wp.call (u64_rd hb h2.1) (fun y3 h3=>Wp.call (u256_rd hb h3.1) (fun y4 h4=>Wp.tot (don_tot _) (fun y5=>Wp.brn (fun _=>z _ _ rfl) (fun _=>z _ _ rfl)))))
 ·
  exact Wp.call (u64_rd hb h1.1) (fun y2 h2=>Wp.tot (don_tot _) (fun y5=>Wp.brn (fun _=>z _ _ rfl) (fun _=>z _ _ rfl)))
 ·
  exact Wp.call (u64_rd hb h1.1) (fun y2 h2=>Wp.call (u256_rd hb h2.1) (fun y3 h3=>Wp.brn (fun _=>z _ _ rfl) (fun _=>Wp.tot (don_tot _) (fun y5=>Wp.brn (fun _=>z _ _ rfl) (fun _=>z _ _ rfl)))))
 ·
  exact Wp.call (u64_rd hb h1.1) (fun y2 h2=>Wp.tot (don_tot _) (fun y5=>Wp.brn (fun _=>z _ _ rfl) (fun _=>z _ _ rfl)))
 ·
  exact Wp.call (u64_rd hb h1.1) (fun y2 h2=>Wp.call (u256_rd hb h2.1) (fun y3 h3=>Wp.tot (don_tot _) (fun y5=>Wp.brn (fun _=>z _ _ rfl) (fun _=>z _ _ rfl))))
 ·
  exact Wp.call (u64_rd hb h1.1) (fun y2 h2=>Wp.call (u64_rd hb h2.1) (fun y3 h3=>Wp.call (u64_rd hb h3.1) (fun y4 h4=>Wp.call (u256_rd hb h4.1) (fun y5 h5=>Wp.call (prf_rd hb h5.1) (fun y6 h6=>Wp.brn (fun _=>z _ _ rfl) (fun _=>Wp.tot (don_tot _) (fun y7=>Wp.brn (fun _=>z _ _ rfl) (fun _=>z _ _ rfl))))))))
end Sym

/- Rejected steps: the law. -/
namespace Sym
open Go
set_option maxRecDepth 100000
def uL (n:Int):U:=(I.of .u64 n,(I.of .u64 0,(I.of .u64 0,(I.of .u64 0,()))))
def nPm:Prm:=(I.of .u64 7000000,(I.of .u64 10,(I.of .u64 102,(uL 100000000,(I.of .u64 32000000,(uL 60000000,(I.of .u64 1000,(uL 10,(I.of .u64 160000000,(I.of .u64 10,(I.of .u64 16,(I.of .u64 65536,()))))))))))))
def nBk:Blk0:=(I.of .u64 1,(I.of .u64 0,(I.of .u64 0,(uL 100000000,()))))
noncomputable section
def nPr:PrT:=(uL 1000000000,(I.of .u64 0,(I.of .u64 0,(I.of .u64 0,(Z_S_api_Int256,([],()))))))
def NM (k:I .u64):HP:=E k nPm nBk nPr
theorem rnew_eq:executor_New K0 ((),()) = some ((),NM (I.of .u64 0)):=by rw [K0_eq]; kernel_rfl
theorem fee0:Tot (basefee_Fee K0 ((I.of .u64 0,(nPm,())),())):=by
 have h:basefee_Fee K0 ((I.of .u64 0,(nPm,())),()) = some ((uL 100000000,(I.of .i64 0,())),()):=by rw [K0_eq]; kernel_rfl
 exact ⟨_,h⟩
def XQ (k:I .u64) (o:Option ((Rcp × Unit) × HP)):Prop:=∃ y,o = some y∧(I.eqb y.1.1.2.1 (I.of .i64 0) = false→y.2 = NM (I.add k (I.of .u64 1)))
theorem count_eq (k:I .u64) (hk:k.val < 1000):executor_Machine_count K0 ((),NM k) = some ((),NM (I.add k (I.of .u64 1))):=by
 refine Wp.out (T:=fun o=>o = some ((),NM (I.add k (I.of .u64 1)))) ?_
 unfold executor_Machine_count
 exact Wp.brnT (iff_ltb.2 (by show k.val < 18446744073709551615; omega)) rfl
theorem XQ.of {k:I .u64} {n:I .i64} {o:Option ((Rcp × (I .i64 × Unit)) × HP)} (h:Q (NM (I.add k (I.of .u64 1))) o):Wp (XQ k) (optF none o fun y1=>brn (I.neb y1.1.2.1 (I.of .i64 0)) (some (((n,(y1.1.2.1,(a0R,(Z_U,(Z_U,(I.of .u64 0,(Z_U,(Z_U,([],()))))))))),()),y1.2)) (some (((n,y1.1.1.2),()),y1.2))):=by
 obtain ⟨y,rfl,h1,h2⟩:=h
 exact Wp.brn (fun g=>⟨_,rfl,fun _=>h1 g⟩) (fun g=>⟨_,rfl,fun q=>absurd ((h2 g).symm.trans q) Bool.noConfusion⟩)
theorem pexe_tot (k:I .u64) (hk:k.val < 1000) (s:S_api_Step) (ht:(tData s.2.1).length ≤ 1073741824):XQ k (a1O K0 ((s,()),NM k)):=by
 refine Wp.out (T:=fun o=>XQ k o) ?_
 unfold a1O
 have hp:nPr.posters = []:=rfl
 have hp2:nPr.posters.length ≤ 1073741824:=Nat.zero_le _
 refine Wp.optF (count_eq k hk) (Wp.brn (fun _=>⟨_,rfl,fun _=>rfl⟩) (fun g1=>Wp.brn (fun _=>⟨_,rfl,fun _=>rfl⟩) (fun g2=>?_)))
 have g1:(1:Int) ≤ s.1.val:=niff_ltb.1 g1
 have g2:s.1.val < 8:=niff_leb.1 g2
 refine Wp.brnT (iff_inB.2 (by show 0 ≤ s.1.val∧s.1.val < ((8:Nat):Int); omega)) ?_
 refine Wp.brn (fun _=>XQ.of (ptx_tot _ _ _ _ s ht hp2)) (fun h1=>Wp.brn (fun _=>XQ.of (prep_tot _ _ _ _ s hp)) (fun h2=>Wp.brn (fun _=>XQ.of (ptic_tot _ _ _ _ s fee0)) (fun h3=>Wp.brn (fun _=>XQ.of (pprm_tot _ _ _ _ s)) (fun h4=>Wp.brn (fun _=>XQ.of (ppos_tot _ _ _ _ s hp2)) (fun h5=>Wp.brn (fun _=>XQ.of (pdps_tot _ _ _ _ s)) (fun h6=>Wp.brn (fun _=>XQ.of (pclm_tot _ _ _ _ s)) (fun h7=>?_)))))))
 have hv:(s.1.nat:Int) = s.1.val:=Int.toNat_of_nonneg (by omega)
 have ne:∀ {m:Nat},eqN s.1.nat m = false→s.1.nat ≠ m:=fun g e=>by subst e; rw [show eqN s.1.nat s.1.nat = true from Nat.beq_refl _] at g; cases g
 have:=ne h1; have:=ne h2; have:=ne h3; have:=ne h4; have:=ne h5; have:=ne h6; have:=ne h7
 omega
theorem pbyt_tot (k:I .u64) (hk:k.val < 1000) (b:Byt) (hb:b.length ≤ 300):XQ k (executor_Machine_ExecuteBytes K0 ((b,()),NM k)):=by
 refine Wp.out (T:=fun o=>XQ k o) ?_
 unfold executor_Machine_ExecuteBytes
 refine Wp.call (std_tot b (by omega)) (fun y hy=>Wp.brn (fun _=>Wp.optF (count_eq k hk) ⟨_,rfl,fun _=>rfl⟩) (fun _=>?_))
 obtain ⟨z,h1,h2⟩:=pexe_tot k hk y.1.1 (by omega)
 exact Wp.optF h1 ⟨_,rfl,h2⟩
abbrev StS:Type:=(I .u64) × (a1R × (S_api_Block × ((I .u64) × ((U × ((I .u64) × ((I .u64) × ((I .u64) × (S_api_Int256 × (Unit × Unit)))))) × (Unit × (S_A4_U × (Unit × (Unit × (U × (Unit × Unit))))))))))
abbrev StH:Type:=a1B × (a0T × (a0Y × (a0W × (a0U × (List Ac × (List Msg × (List Hs × (List Hs × (List Bool × (List Pay × (List a0E × (List Ac × (List Msg × (List Bool × (List Pay × Unit)))))))))))))))
def stV (k:I .u64):(StS × Unit) × StH :=
 (((k,(nPm,(nBk,(I.of .u64 0,((uL 1000000000,(I.of .u64 0,(I.of .u64 0,(I.of .u64 0,(Z_S_api_Int256,((),())))))),((),(Z_S_A4_U,((),((),(Z_U,((),()))))))))))),()),
  (E0 k nPm nBk nPr,(lgH Z_S_A4_U,(((),((),())),(((),()),(eHp Z_U,([],([],([],([],([],([],([],([],([],([],([],())))))))))))))))))
theorem st_eq (k:I .u64):executor_Machine_State K0 ((),NM k) = some (stV k):=by rw [K0_eq]; kernel_rfl
def st0:S_api_State:=(I.of .u64 0,(nPm,(nBk,(I.of .u64 0,(nPr,([],(Z_S_A4_U,([],([],(Z_U,([],())))))))))))
theorem same_eq:pontagelaw0_EqualState K0 ((st0,(st0,())),()) = some ((true,()),()):=by rw [K0_eq]; kernel_rfl
theorem clnQ:@a0S = slices_Clone___api_Poster_api_Poster_c:=funext fun K=>funext (slices_Clone___api_Poster_api_Poster_c_eq K)
def pclQ:{f // pricer_cloned = f}:=⟨_,by delta pricer_cloned; rw [clnQ]⟩
def auQ:{f // pricer_AddUnits = f}:=⟨_,by delta pricer_AddUnits; rw [pclQ.2]⟩
def paQ:{f // poster_Add = f}:=⟨_,by delta poster_Add; rw [clnQ]⟩
def apQ:{f // pricer_AddPoster = f}:=⟨_,by delta pricer_AddPoster; rw [paQ.2]⟩
def txQ:{f // executor_Machine_transaction = f}:=⟨_,by delta executor_Machine_transaction; rw [auQ.2]⟩
def adQ:{f // executor_Machine_addPoster = f}:=⟨_,by delta executor_Machine_addPoster; rw [apQ.2]⟩
def exQ:{f // a1O = f}:=⟨_,by delta a1O; rw [txQ.2,adQ.2]⟩
def wkQ:{f // pontagetop_awake = f}:=⟨_,by delta pontagetop_awake; rw [exQ.2]⟩
theorem rwake:pontagetop_awake K0 ((),()) = some ((true,()),()):=by
 rw [wkQ.2,K0_eq]
 kernel_rfl
abbrev JN (R:Type):Type:=a1B × (a0T × (List Ac × (a0Y × (List Msg × (a0W × (List Hs × (a0U × (List Hs × (List Bool × (List Pay × R))))))))))
def jN {R:Type} (k:I .u64) (r:R):JN R:=(E0 k nPm nBk nPr,(lgH Z_S_A4_U,([],(((),((),())),([],(((),()),([],(eHp Z_U,([],([],([],r)))))))))))
theorem rej_law (l:List Byt) (hL:l.length ≤ LIM) (hB:∀ b ∈ l,b.length ≤ LIM):pontagetop_SystemRejectedSteps K0 ((l,()),()) = some ((true,()),()):=by
 refine Wp.out (T:=fun o=>o = some ((true,()),())) ?_
 unfold pontagetop_SystemRejectedSteps
 refine Wp.brn (fun _=>Wp.optF rwake rfl) (fun h=>?_)
 have hl:l.length ≤ 20:=by
  have h:I.ltb (I.of .i64 20) (I.ofNat .i64 l.length) = false:=h
  have e:I.ltb (I.of .i64 20) (I.ofNat .i64 l.length) = decide (20 < l.length):=i6_ltb (n:=20) (by omega) (Nat.lt_of_le_of_lt hL (by decide))
  rw [e] at h
  have:=of_decide_eq_false h
  omega
 refine Wp.optF rnew_eq (Wp.optF rnew_eq ?_)
 refine Wp.jn (fun x=>x = ((l,()),jN (I.of .u64 0) (jN (I.of .u64 0) ()))) ?_ (fun j hj=>hj _ rfl)
 rintro x rfl
 refine Wp.iter (fun x=>∃ i k,i ≤ l.length∧k.val ≤ (i:Int)∧x = ((l,(i6 i,())),jN k (jN (I.of .u64 0) ()))) (fun x=>20 - x.1.2.1.val.toNat) ?_ ⟨0,_,Nat.zero_le _,Int.le_refl _,rfl⟩ (by rw [K0_eq]; show 20 - 0 < _; decide)
 rintro x ⟨i,k,hi,hk,rfl⟩
 have hn:I.add (i6 i) (I.of .i64 1) = i6 (i + 1):=i6_add (m:=1) (by omega)
 have dec:i < l.length→20 - (I.add (i6 i) (I.of .i64 1)).val.toNat < 20 - (i6 i).val.toNat:=fun g=>by rw [hn,a1J (by omega),a1J (by omega)]; omega
 refine Wp.brn (fun g=>?_) (fun _=>Wp.done (Wp.optF rwake rfl))
 have g:i < l.length:=of_decide_eq_true ((i6_ltb (by omega) (by omega)).symm.trans g)
 refine Wp.brnT (i6_inB g (by omega)) (Wp.brn (fun _=>Wp.optF rwake (Wp.done rfl)) (fun h=>Wp.brnT (i6_inB g (by omega)) ?_))
 have hb:(rdL [] l (I.nat (i6 i))).length ≤ 300:=by
  rw [i6_nat (by omega)] at h ⊢
  have hL:=hB _ (rdL_mem ([]:Byt) l i g)
  have h:I.ltb (I.of .i64 300) (I.ofNat .i64 (rdL [] l i).length) = false:=h
  have e:I.ltb (I.of .i64 300) (I.ofNat .i64 (rdL [] l i).length) = decide (300 < (rdL [] l i).length):=i6_ltb (n:=300) (by omega) (Nat.lt_of_le_of_lt hL (by decide))
  rw [e] at h
  have:=of_decide_eq_false h
  omega
 have hkr:=u64_range k
 obtain ⟨⟨⟨r,⟨⟩⟩,m⟩,h1,h2⟩:=pbyt_tot k (by omega) (rdL [] l (I.nat (i6 i))) hb
 refine Wp.optF h1 (Wp.brn (fun _=>Wp.optF rnew_eq (Wp.again ⟨i + 1,_,g,?_,by rw [hn]; rfl⟩ (dec g))) (fun he=>?_))
 ·
  show (0:Int) ≤ _; omega
 have hm:m = NM (I.add k (I.of .u64 1)):=h2 he
 subst hm
 have ha:(I.add k (I.of .u64 1)).val = k.val + 1:=add_u64 (by show k.val + 1 < _; omega)
 refine Wp.optF (st_eq (I.add k (I.of .u64 1))) (Wp.optF (st_eq (I.of .u64 0)) (Wp.brnF (niff_eqb.2 (by show (I.add k (I.of .u64 1)).val ≠ 0; omega)) (Wp.optF same_eq (Wp.brnF rfl (Wp.again ⟨i + 1,I.add k (I.of .u64 1),g,by rw [ha]; omega,by rw [hn]; rfl⟩ (dec g))))))
end
end Sym

/- Facts of the program that the row of SystemRejectedSteps wants, reckoned by the kernel one by one. -/
namespace Go.Proofs.YthmdmcdjjopaiaaGreat.systemRejectedSteps
open Go.ChangeShapes Go.WideShapes Go.ChangeAt Go.RowKit Sym
theorem own:ownKnob Tryz.prog.godebug = none:=by kernel_rfl
theorem laidOut:laidOutB Tryz.prog = true:=by kernel_rfl
theorem c0:(Rows.systemRejectedStepsRow.inPlace == Tryz.pinned.checked.prog.inPlace 3) = true:=by kernel_rfl
theorem c1:(Rows.systemRejectedStepsRow.unfollowed == Tryz.pinned.checked.prog.unfollowed 3) = true:=by kernel_rfl
theorem c2:(Rows.systemRejectedStepsRow.recurses == Tryz.pinned.checked.prog.recurses 3) = true:=by kernel_rfl
theorem c3:(Rows.systemRejectedStepsRow.named == Tryz.pinned.checked.prog.varsNamed 3) = true:=by kernel_rfl
theorem c4:(mapsRowed Tryz.pinned.checked.prog) = true:=by kernel_rfl
theorem closed:joinedFacts Tryz.pinned.checked.prog 3 Tryz.f3 Rows.systemRejectedStepsSpec Rows.systemRejectedStepsRow = true:=by
 unfold joinedFacts
 rw [c0,c1,c2,c3,c4]
 kernel_rfl
end Go.Proofs.YthmdmcdjjopaiaaGreat.systemRejectedSteps
