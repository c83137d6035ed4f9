/- A run's next step; a run. -/
import Derived.Carry
import Derived.SizedLaws
import Derived.ChangeOld
import Derived.OpenShut
import Derived.Test.YtojogbnepbblgaaGreatPart6
import Derived.Test.YtojogbnepbblgaaGreatPart3
namespace Sym
open Go
def g2F (calm:Bool) (m:MS) (o:Option ((⟨[.pl a1G],a0F⟩:Tm).D)):Prop:=∃ s:b7X,o = some ((s,()),m.h)∧StG calm m.ms.length s
theorem f9M (k:I .i64) (calm:Bool) (m:MS) (hs:Sz 100000000 m):g2F calm m (a9K K0 ((k,(calm,())),m.h)):=by
 refine Wp.out (T:=fun o=>g2F calm m o) ?_
 unfold a9K
 obtain ⟨x,hx,x0,_⟩:=f1M k (I.of .i64 4611686018427387904) (by decide)
 refine Wp.optF hx ?_
 have z:([]:List (I .u8)).length ≤ 1000:=Nat.zero_le _
 have z2:([]:List Hs).length ≤ m.ms.length + 1:=Nat.zero_le _
 have n6:∀ (k:I .i64),k.val ≠ 6→I.eqb k (I.of .i64 6) = true→False:=fun k h g=>h (iff_eqb.1 g)
 refine Wp.jn (fun w=>∃ (ad:I .u64) (n r:I .i64) (f:Bool) (y:b7X),0 ≤ n.val∧w = ((calm,(ad,(n,(r,(f,()))))),(m.j,(lgH m.v,(m.ac,(m.ms,(esH m.bal,(m.rt,(m.cl,(m.ba,(y,()))))))))))) ?_ ?_
 ·
  rintro w ⟨ad,n,r,f,y,hn,rfl⟩
  refine Wp.brn (fun _=>?_) (fun _=>?_)
  ·
   obtain ⟨s,e,g⟩:=e5Q n ad calm m.ms.length hn
   exact Wp.optF e ⟨s,rfl,g⟩
  refine Wp.jn (fun w=>∃ (ad:I .u64) (n r:I .i64) (f:Bool) (y:b7X),0 ≤ n.val∧w = ((ad,(n,(r,(f,())))),(m.j,(lgH m.v,(m.ac,(m.ms,(esH m.bal,(m.rt,(m.cl,(m.ba,(y,()))))))))))) ?_ ?_
  ·
   rintro w ⟨ad,n,r,f,y,hn,rfl⟩
   refine Wp.brn (fun _=>?_) (fun _=>?_)
   ·
    obtain ⟨q,e⟩:=f1E n m
    exact Wp.optF e ⟨_,rfl,z,z2,fun _ g=>(n6 (I.of .i64 2) (by decide) g).elim⟩
   refine Wp.brn (fun _=>Wp.brn (fun _=>⟨_,rfl,z,z2,fun _ g=>(n6 (I.of .i64 3) (by decide) g).elim⟩) (fun _=>⟨_,rfl,z,z2,fun _ g=>(n6 (I.of .i64 3) (by decide) g).elim⟩)) (fun _=>?_)
   refine Wp.brn (fun _=>?_) (fun _=>?_)
   ·
    obtain ⟨s,e,g⟩:=f2O n calm m.ms.length hn
    exact Wp.optF e ⟨s,rfl,g⟩
   refine Wp.brn (fun _=>Wp.brn (fun _=>⟨_,rfl,z,z2,fun _ g=>(n6 (I.of .i64 5) (by decide) g).elim⟩) (fun _=>⟨_,rfl,z,z2,fun _ g=>(n6 (I.of .i64 5) (by decide) g).elim⟩)) (fun _=>?_)
   refine Wp.jn (fun w=>∃ (ad:I .u64) (n:I .i64) (f:Bool) (y:b7X),0 ≤ n.val∧w = ((ad,(n,(f,()))),(m.j,(lgH m.v,(m.ac,(m.ms,(esH m.bal,(m.rt,(m.cl,(m.ba,(y,()))))))))))) ?_ ?_
   ·
    rintro w ⟨ad,n,f,y,hn,rfl⟩
    refine Wp.brn (fun _=>?_) (fun _=>?_)
    ·
     obtain ⟨c,e,hc⟩:=f4S n m hn hs
     exact Wp.optF e ⟨_,rfl,z,hc,fun _ g=>(n6 (I.of .i64 7) (by decide) g).elim⟩
    ·
     obtain ⟨t,e,ht⟩:=d2S n ad m hn hs
     exact Wp.optF e ⟨_,rfl,ht,z2,fun _ g=>(n6 (I.of .i64 1) (by decide) g).elim⟩
   ·
    intro j hj
    exact Wp.brn (fun _=>hj _ ⟨_,_,_,_,hn,rfl⟩) (fun _=>hj _ ⟨_,_,_,_,hn,rfl⟩)
  ·
   intro j hj
   exact Wp.brn (fun _=>hj _ ⟨_,_,_,_,_,hn,rfl⟩) (fun _=>hj _ ⟨_,_,_,_,_,hn,rfl⟩)
 ·
  intro j hj
  have hq:0 ≤ (I.quo x (I.of .i64 64)).val:=f0S x0 (by decide)
  exact Wp.brn (fun _=>hj _ ⟨_,_,_,_,_,hq,rfl⟩) (fun _=>hj _ ⟨_,_,_,_,_,hq,rfl⟩)
noncomputable def g7C:Prm:=(((I.of .u64 7000000),((I.of .u64 10),((I.of .u64 102),(((I.of .u64 100000000),((I.of .u64 0),((I.of .u64 0),((I.of .u64 0),())))),((I.of .u64 32000000),(((I.of .u64 60000000),((I.of .u64 0),((I.of .u64 0),((I.of .u64 0),())))),((I.of .u64 1000),(((I.of .u64 10),((I.of .u64 0),((I.of .u64 0),((I.of .u64 0),())))),((I.of .u64 160000000),((I.of .u64 10),((I.of .u64 16),((I.of .u64 65536),())))))))))))))
noncomputable def ms0:MS:=⟨I.of .u64 0,g7C,(I.of .u64 1,(I.of .u64 0,(I.of .u64 0,(((I.of .u64 100000000),((I.of .u64 0),((I.of .u64 0),((I.of .u64 0),())))),())))),I.of .u64 0,(((I.of .u64 1000000000),((I.of .u64 0),((I.of .u64 0),((I.of .u64 0),())))),((I.of .u64 0),((I.of .u64 0),((I.of .u64 0),(a2V,([],())))))),c4H,[],[],Z_U,[],[],[]⟩
theorem g2P:b4C K0 ((),()) = some ((),ms0.h):=by
 rw [a7L]; kernel_rfl
noncomputable abbrev zTx:Txn:=((I.of .u64 0),((I.of .u64 0),((I.of .u64 0),(Z_U,((I.of .u64 0),(Z_U,(Z_U,((I.of .u64 0),([],())))))))))
noncomputable abbrev g2X:Clm:=((I.of .u64 0),((I.of .u64 0),((I.of .u64 0),(Z_U,([],())))))
noncomputable def g4C (a:Nat):b7X:=(I.of .i64 6,(zTx,(a0L,(I.of .u64 0,(I.of .i64 0,(((I.of .u64 288230376151711744),((I.of .u64 0),((I.of .u64 0),((I.of .u64 0),())))),(I.of .u64 (a:Int),(g2X,()))))))))
noncomputable def g4Y (a:Nat):b7X:=(I.of .i64 5,(zTx,(a0L,(I.of .u64 0,(I.of .i64 0,(Z_U,(I.of .u64 (a:Int),(g2X,()))))))))
noncomputable def g1E:b7X:=(I.of .i64 3,(zTx,(a0L,(I.of .u64 12,(I.of .i64 0,(Z_U,(I.of .u64 0,(g2X,()))))))))
noncomputable def setupL:List b7X:=[g4C 1,g4C 2,g4C 3,g4C 4,g4Y 5,g4Y 6,g4Y 7,g1E]
theorem f3E:b1C K0 ((),()) = some ((),(setupL,())):=by
 rw [a7L]; kernel_rfl
theorem d3T (calm:Bool) (n:Nat):∀ s ∈ setupL,StG calm n s:=by
 have z:([]:List (I .u8)).length ≤ 1000:=Nat.zero_le _
 have z2:([]:List Hs).length ≤ n + 1:=Nat.zero_le _
 have d:∀ a,StG calm n (g4C a):=fun a=>⟨z,z2,fun _ _=>by show U.val (_,_) < _; rw [g5G]; decide⟩
 have p:∀ a,StG calm n (g4Y a):=fun a=>⟨z,z2,fun _ g=>by have:(5:Int) = 6:=iff_eqb.1 g; omega⟩
 have t:StG calm n g1E:=⟨z,z2,fun _ g=>by have:(3:Int) = 6:=iff_eqb.1 g; omega⟩
 intro s hs
 simp only [setupL,List.mem_cons,List.not_mem_nil,or_false] at hs
 rcases hs with rfl | rfl | rfl | rfl | rfl | rfl | rfl | rfl
 ·
  exact d 1
 ·
  exact d 2
 ·
  exact d 3
 ·
  exact d 4
 ·
  exact p 5
 ·
  exact p 6
 ·
  exact p 7
 ·
  exact t
noncomputable def c5P (s:MS × List Rcp) (x:b7X):MS × List Rcp:=((e7G s.1 x).2,s.2 ++ [(e7G s.1 x).1])
noncomputable def e0O (m:MS) (l:List b7X):MS × List Rcp:=l.foldl c5P (m,[])
theorem d0K (m:MS) (l:List b7X) (x:b7X):e0O m (l ++ [x]) = c5P (e0O m l) x:=by
 unfold e0O
 rw [List.foldl_append]
 rfl
theorem d5J (m:MS) (l:List b7X):(e0O m l).2.length = l.length:=by
 suffices h:∀ (l:List b7X) (s:MS × List Rcp),(l.foldl c5P s).2.length = s.2.length + l.length by
  show (List.foldl c5P (m,[]) l).2.length = _
  rw [h l (m,[])]
  exact Nat.zero_add _
 intro l
 induction l with
 | nil=>intro s; rfl
 | cons x l ih =>
  intro s
  rw [List.foldl_cons,ih]
  show (s.2 ++ [_]).length + l.length = s.2.length + (l.length + 1)
  rw [List.length_append]
  simp
  omega
end Sym

/- A run of the reference. -/
namespace Sym
open Go
structure RunOk (calm:Bool) (k:Nat) (l:List b7X) (p:MS × List Rcp):Prop where
 run:p = e0O ms0 l
 len:l.length = 8 + k
 sz:Sz (128 * (8 + k)) p.1
 good:∀ s ∈ l,StG calm (128 * (8 + k)) s
 msgs:∀ r ∈ p.2,(a5Z r).length ≤ 64
theorem StG.mono {calm:Bool} {n k:Nat} {s:b7X} (h:StG calm n s) (hk:n ≤ k):StG calm k s:=⟨h.data,by have:=h.prf; omega,h.dep⟩
theorem d3G (calm:Bool):∀ i,i ≤ 8→Sz (128 * i) (e0O ms0 (setupL.take i)).1∧∀ r ∈ (e0O ms0 (setupL.take i)).2,(a5Z r).length ≤ 64
 | 0,_=>⟨⟨Nat.le_refl _,Nat.le_refl _,Nat.le_refl _,Nat.le_refl _,Nat.le_refl _,Nat.le_refl _⟩,fun r h=>by cases h⟩
 | i + 1,hi=>by
  obtain ⟨h1,h2⟩:=d3G calm i (by omega)
  have hl:i < setupL.length:=by show i < 8; omega
  rw [List.take_add_one,List.getElem?_eq_getElem hl]
  simp only [Option.toList]
  rw [d0K]
  obtain ⟨g1,g2⟩:=e9C h1 setupL[i]
  refine ⟨g1.mono (by omega),fun r hr=>?_⟩
  have hr:r ∈ (e0O ms0 (setupL.take i)).2 ++ [(e7G (e0O ms0 (setupL.take i)).1 setupL[i]).1]:=hr
  rcases List.mem_append.1 hr with h | h
  ·
   exact h2 r h
  ·
   rw [List.mem_singleton.1 h]; exact g2
theorem RunOk.snoc {calm:Bool} {k:Nat} {l:List b7X} {p:MS × List Rcp} (h:RunOk calm k l p) {s:b7X} (hs:StG calm p.1.ms.length s):RunOk calm (k + 1) (l ++ [s]) (c5P p s):=by
 obtain ⟨g1,g2⟩:=e9C h.sz s
 refine ⟨by rw [d0K,← h.run],by rw [List.length_append,h.len]; rfl,g1.mono (by omega),fun x hx=>?_,fun r hr=>?_⟩
 ·
  rcases List.mem_append.1 hx with h' | h'
  ·
   exact (h.good x h').mono (by omega)
  ·
   rw [List.mem_singleton.1 h']; exact hs.mono (by have:=h.sz.ms; omega)
 ·
  have hr:r ∈ p.2 ++ [(e7G p.1 s).1]:=hr
  rcases List.mem_append.1 hr with h' | h'
  ·
   exact h.msgs r h'
  ·
   rw [List.mem_singleton.1 h']; exact g2
noncomputable def g9C (a:List (I .i64)) (calm:Bool) (i:Nat) (l:List b7X) (p:MS × List Rcp):(((List (I .i64)) × (Bool × ((I .i64) × Unit))) × (a0Z × (a0P × ((List a0E) × ((List a0C) × (a0V × ((List a0G) × ((List (I .u64)) × ((List a0D) × ((List a1H) × ((List a0I) × Unit))))))))))) :=
 ((a,(calm,(i6 i,()))),(p.1.j,(lgH p.1.v,(p.1.ac,(p.1.ms,(esH p.1.bal,(p.1.rt,(p.1.cl,(p.1.ba,(l,(p.2,())))))))))))
noncomputable def g8R (l:List b7X) (p:MS × List Rcp):Unit × (a0Z × (a0P × (a0V × ((List a0C) × ((List a0E) × ((List a0G) × ((List (I .u64)) × ((List a0D) × ((List a1H) × ((List a0I) × Unit)))))))))) :=
 ((),(p.1.j,(lgH p.1.v,(esH p.1.bal,(p.1.ms,(p.1.ac,(p.1.rt,(p.1.cl,(p.1.ba,(l,(p.2,())))))))))))
theorem g4M (a:List (I .i64)) (calm:Bool) (ha:a.length ≤ 1000):∃ (l:List b7X) (p:MS × List Rcp),a7N K0 ((a,(calm,())),()) = some (g8R l p)∧RunOk calm a.length l p:=by
 refine Wp.out (T:=fun o=>∃ (l:List b7X) (p:MS × List Rcp),o = some (g8R l p)∧RunOk calm a.length l p) ?_
 unfold a7N
 refine Wp.optF g2P (Wp.optF f3E ?_)
 refine Wp.iter (fun x=>∃ i,i ≤ 8∧x = g9C a calm i setupL (e0O ms0 (setupL.take i))) (fun x=>8 - x.1.2.2.1.val.toNat) ?_ ⟨0,by omega,rfl⟩ (by rw [a7L]; show 8 - 0 < _; decide)
 rintro x ⟨i,hi,rfl⟩
 obtain ⟨hsz,hm⟩:=d3G calm i hi
 have hrl:=d5J ms0 (setupL.take i)
 have hnx:(h:i < 8)→e0O ms0 (setupL.take (i + 1)) = c5P (e0O ms0 (setupL.take i)) (rdL g1E setupL i):=by
  intro h
  have hl:i < setupL.length:=h
  rw [List.take_add_one,List.getElem?_eq_getElem hl,a4P _ _ _ hl]
  simp only [Option.toList]
  rw [d0K]
 have hfin:i = 8→e0O ms0 (setupL.take i) = e0O ms0 setupL:=by
  intro e
  rw [e]
  rfl
 generalize e0O ms0 (setupL.take i) = p at *
 have h8:setupL.length = 8:=rfl
 have e:I.ltb (i6 i) (I.ofNat .i64 (a0K setupL)) = decide (i < 8):=a2U (n:=i) (m:=8) (by omega) (by omega)
 have hn:I.add (i6 i) (I.of .i64 1) = i6 (i + 1):=a3S (m:=1) (by omega)
 refine Wp.brn (fun hc=>?_) (fun hc=>?_)
 ·
  have hc:I.ltb (i6 i) (I.ofNat .i64 (a0K setupL)) = true:=hc
  rw [e] at hc
  have hc:=of_decide_eq_true hc
  have hnx:=hnx hc
  refine Wp.brnT (by show inB (i6 i) setupL.length = true; exact a3F (by omega) (by omega)) ?_
  have hmem:rdL g1E setupL i ∈ setupL:=b8U _ _ _ (by omega)
  have hg:=d3T calm (128 * i) _ hmem
  have hex:=f6W p.1 (rdL g1E setupL i) (hsz.mono (by omega)) (by have:=hg.data; omega) (by have:=hg.prf; omega)
  have hrd:rdL ((I.of .i64 0),(zTx,(a0L,((I.of .u64 0),((I.of .i64 0),(Z_U,((I.of .u64 0),(g2X,())))))))) setupL (I.nat (i6 i)) = rdL g1E setupL i:=by
   rw [a3A (by omega),a4P _ _ _ (by omega),a4P _ _ _ (by omega)]
  rw [← hrd] at hex
  refine Wp.optF hex ?_
  refine Wp.brnT (b9K _ _ (by show p.2.length + 1 ≤ _; rw [hrl,List.length_take]; omega)) ?_
  refine Wp.again ⟨i + 1,by omega,?_⟩ ?_
  ·
   rw [hnx]
   show ((a,(calm,(I.add (i6 i) (I.of .i64 1),()))),_) = _
   rw [hn,← hrd]
   rfl
  ·
   show 8 - (I.add (i6 i) (I.of .i64 1)).val.toNat < 8 - (i6 i).val.toNat
   rw [hn,a0W (by omega),a0W (by omega)]; omega
 ·
  have hc:I.ltb (i6 i) (I.ofNat .i64 (a0K setupL)) = false:=hc
  rw [e] at hc
  have hc:i = 8:=by have:=of_decide_eq_false hc; omega
  subst hc
  have hfin:=hfin rfl
  have h0:RunOk calm 0 setupL p:=⟨hfin,rfl,hsz.mono (by omega),d3T calm _,hm⟩
  clear hnx hfin hsz hm hrl
  refine Wp.done ?_
  refine Wp.iter (fun x=>∃ (i:Nat) (l:List b7X) (p:MS × List Rcp),i ≤ a.length∧x = g9C a calm i l p∧RunOk calm i l p) (fun x=>a.length - x.1.2.2.1.val.toNat) ?_ ⟨0,setupL,p,by omega,rfl,h0⟩ (by rw [a7L]; show a.length - 0 < _; omega)
  rintro x ⟨i,l,q,hi,rfl,hR⟩
  have e:I.ltb (i6 i) (I.ofNat .i64 (a0K a)) = decide (i < a.length):=a2U (n:=i) (by omega) (by show a.length < _; omega)
  have hn:I.add (i6 i) (I.of .i64 1) = i6 (i + 1):=a3S (m:=1) (by omega)
  have hql:q.2.length = 8 + i:=by rw [hR.run,d5J,hR.len]
  refine Wp.brn (fun hc=>?_) (fun hc=>?_)
  ·
   have hc:I.ltb (i6 i) (I.ofNat .i64 (a0K a)) = true:=hc
   rw [e] at hc
   have hc:=of_decide_eq_true hc
   refine Wp.brnT (by show inB (i6 i) a.length = true; exact a3F (by omega) (by omega)) ?_
   have hsz:=hR.sz.mono (show 128 * (8 + i) ≤ 100000000 by omega)
   obtain ⟨s,hs,hg⟩:=f9M (rdL (I.of .i64 0) a (I.nat (i6 i))) calm q.1 hsz
   refine Wp.optF hs (Wp.brnT (b9K _ _ (by show l.length + 1 ≤ _; rw [hR.len]; omega)) ?_)
   refine Wp.optF (f6W q.1 s hsz (by have:=hg.data; omega) (by have:=hg.prf; have:=hsz.ms; omega)) ?_
   refine Wp.brnT (b9K _ _ (by show q.2.length + 1 ≤ _; omega)) ?_
   refine Wp.again ⟨i + 1,l ++ [s],c5P q s,by omega,?_,hR.snoc hg⟩ ?_
   ·
    show ((a,(calm,(I.add (i6 i) (I.of .i64 1),()))),_) = _
    rw [hn]
    rfl
   ·
    show a.length - (I.add (i6 i) (I.of .i64 1)).val.toNat < a.length - (i6 i).val.toNat
    rw [hn,a0W (by omega),a0W (by omega)]; omega
  ·
   have hc:I.ltb (i6 i) (I.ofNat .i64 (a0K a)) = false:=hc
   rw [e] at hc
   have hc:i = a.length:=by have:=of_decide_eq_false hc; omega
   subst hc
   exact Wp.done ⟨l,q,rfl,hR⟩
end Sym

/- Audit: totals. -/
namespace Sym
open Go
abbrev d4N:Type:=a9Y
def b9J (r:Rcp):I .i64:=r.1
def d0H (r:Rcp):I .i64:=r.2.1
def b9I (r:Rcp):Chg:=r.2.2.1
def f0C (r:Rcp):U:=r.2.2.2.2.2.2.2.1
def up (T:Nat→Nat) (j n:Nat):Nat→Nat:=fun i=>if i = j then T i + n else T i
theorem a6L (T:Nat→Nat) (j n:Nat):up T j n j = T j + n:=if_pos rfl
theorem a2F (T:Nat→Nat) {j i:Nat} (n:Nat) (h:i ≠ j):up T j n i = T i:=if_neg h
def Ovr (T:Nat→Nat):Prop:=∃ j,j < 8∧U.top ≤ T j
theorem Ovr.up {T:Nat→Nat} (h:Ovr T) (j n:Nat):Ovr (up T j n):=by
 obtain ⟨i,hi,h⟩:=h
 refine ⟨i,hi,?_⟩
 by_cases e:i = j
 ·
  subst e; rw [a6L]; omega
 ·
  rw [a2F T n e]; exact h
def PAcc (ov:Bool) (u:d4N) (T:Nat→Nat):Prop :=
 if ov = true then Ovr T else u.1.val = T 0∧u.2.1.val = T 1∧u.2.2.1.val = T 2∧u.2.2.2.1.val = T 3∧u.2.2.2.2.1.val = T 4∧u.2.2.2.2.2.1.val = T 5∧u.2.2.2.2.2.2.1.val = T 6∧u.2.2.2.2.2.2.2.1.val = T 7
def c4R (a n:U):Bool:=I.neb (d9K a n).2 (I.of .i64 0)
theorem c8K {a n:U} (h:c4R a n = true):U.top ≤ a.val + n.val:=by
 unfold c4R d9K at h
 by_cases c:a.val + n.val < U.top
 ·
  rw [if_pos c] at h
  have h:I.neb (I.of .i64 0) (I.of .i64 0) = true:=h
  exact absurd h (by decide)
 ·
  omega
theorem c8P {a n:U} (h:c4R a n = false):(d9K a n).1.val = a.val + n.val:=by
 unfold c4R at h
 unfold d9K at h ⊢
 by_cases c:a.val + n.val < U.top
 ·
  rw [if_pos c]; exact U.val_of c
 ·
  rw [if_neg c] at h
  have h:I.neb (I.of .i64 4) (I.of .i64 0) = false:=h
  exact absurd h (by decide)
theorem g5X {ov:Bool} {u:d4N} {T:Nat→Nat} (h:PAcc ov u T) (n:U):PAcc (ov || c4R u.1 n) (((d9K u.1 n).1,u.2)) (up T 0 n.val):=by
 cases ov with
 | true =>
  have h:Ovr T:=h
  exact h.up 0 n.val
 | false =>
  have h:_∧_:=h
  obtain ⟨h0,h1,h2,h3,h4,h5,h6,h7⟩:=h
  cases he:c4R u.1 n with
  | true=>exact ⟨0,by decide,by rw [a6L,← h0]; exact c8K he⟩
  | false =>
   refine ⟨by rw [a6L,← h0]; exact c8P he,by rw [a2F T n.val (by decide)]; exact h1,by rw [a2F T n.val (by decide)]; exact h2,by rw [a2F T n.val (by decide)]; exact h3,by rw [a2F T n.val (by decide)]; exact h4,by rw [a2F T n.val (by decide)]; exact h5,by rw [a2F T n.val (by decide)]; exact h6,by rw [a2F T n.val (by decide)]; exact h7⟩
theorem g5M {ov:Bool} {u:d4N} {T:Nat→Nat} (h:PAcc ov u T) (n:U):PAcc (ov || c4R u.2.1 n) ((u.1,((d9K u.2.1 n).1,u.2.2))) (up T 1 n.val):=by
 cases ov with
 | true =>
  have h:Ovr T:=h
  exact h.up 1 n.val
 | false =>
  have h:_∧_:=h
  obtain ⟨h0,h1,h2,h3,h4,h5,h6,h7⟩:=h
  cases he:c4R u.2.1 n with
  | true=>exact ⟨1,by decide,by rw [a6L,← h1]; exact c8K he⟩
  | false =>
   refine ⟨by rw [a2F T n.val (by decide)]; exact h0,by rw [a6L,← h1]; exact c8P he,by rw [a2F T n.val (by decide)]; exact h2,by rw [a2F T n.val (by decide)]; exact h3,by rw [a2F T n.val (by decide)]; exact h4,by rw [a2F T n.val (by decide)]; exact h5,by rw [a2F T n.val (by decide)]; exact h6,by rw [a2F T n.val (by decide)]; exact h7⟩
theorem g8C {ov:Bool} {u:d4N} {T:Nat→Nat} (h:PAcc ov u T) (n:U):PAcc (ov || c4R u.2.2.1 n) ((u.1,(u.2.1,((d9K u.2.2.1 n).1,u.2.2.2)))) (up T 2 n.val):=by
 cases ov with
 | true =>
  have h:Ovr T:=h
  exact h.up 2 n.val
 | false =>
  have h:_∧_:=h
  obtain ⟨h0,h1,h2,h3,h4,h5,h6,h7⟩:=h
  cases he:c4R u.2.2.1 n with
  | true=>exact ⟨2,by decide,by rw [a6L,← h2]; exact c8K he⟩
  | false =>
   refine ⟨by rw [a2F T n.val (by decide)]; exact h0,by rw [a2F T n.val (by decide)]; exact h1,by rw [a6L,← h2]; exact c8P he,by rw [a2F T n.val (by decide)]; exact h3,by rw [a2F T n.val (by decide)]; exact h4,by rw [a2F T n.val (by decide)]; exact h5,by rw [a2F T n.val (by decide)]; exact h6,by rw [a2F T n.val (by decide)]; exact h7⟩
theorem g5O {ov:Bool} {u:d4N} {T:Nat→Nat} (h:PAcc ov u T) (n:U):PAcc (ov || c4R u.2.2.2.1 n) ((u.1,(u.2.1,(u.2.2.1,((d9K u.2.2.2.1 n).1,u.2.2.2.2))))) (up T 3 n.val):=by
 cases ov with
 | true =>
  have h:Ovr T:=h
  exact h.up 3 n.val
 | false =>
  have h:_∧_:=h
  obtain ⟨h0,h1,h2,h3,h4,h5,h6,h7⟩:=h
  cases he:c4R u.2.2.2.1 n with
  | true=>exact ⟨3,by decide,by rw [a6L,← h3]; exact c8K he⟩
  | false =>
   refine ⟨by rw [a2F T n.val (by decide)]; exact h0,by rw [a2F T n.val (by decide)]; exact h1,by rw [a2F T n.val (by decide)]; exact h2,by rw [a6L,← h3]; exact c8P he,by rw [a2F T n.val (by decide)]; exact h4,by rw [a2F T n.val (by decide)]; exact h5,by rw [a2F T n.val (by decide)]; exact h6,by rw [a2F T n.val (by decide)]; exact h7⟩
theorem g7B {ov:Bool} {u:d4N} {T:Nat→Nat} (h:PAcc ov u T) (n:U):PAcc (ov || c4R u.2.2.2.2.1 n) ((u.1,(u.2.1,(u.2.2.1,(u.2.2.2.1,((d9K u.2.2.2.2.1 n).1,u.2.2.2.2.2)))))) (up T 4 n.val):=by
 cases ov with
 | true =>
  have h:Ovr T:=h
  exact h.up 4 n.val
 | false =>
  have h:_∧_:=h
  obtain ⟨h0,h1,h2,h3,h4,h5,h6,h7⟩:=h
  cases he:c4R u.2.2.2.2.1 n with
  | true=>exact ⟨4,by decide,by rw [a6L,← h4]; exact c8K he⟩
  | false =>
   refine ⟨by rw [a2F T n.val (by decide)]; exact h0,by rw [a2F T n.val (by decide)]; exact h1,by rw [a2F T n.val (by decide)]; exact h2,by rw [a2F T n.val (by decide)]; exact h3,by rw [a6L,← h4]; exact c8P he,by rw [a2F T n.val (by decide)]; exact h5,by rw [a2F T n.val (by decide)]; exact h6,by rw [a2F T n.val (by decide)]; exact h7⟩
theorem g6P {ov:Bool} {u:d4N} {T:Nat→Nat} (h:PAcc ov u T) (n:U):PAcc (ov || c4R u.2.2.2.2.2.1 n) ((u.1,(u.2.1,(u.2.2.1,(u.2.2.2.1,(u.2.2.2.2.1,((d9K u.2.2.2.2.2.1 n).1,u.2.2.2.2.2.2))))))) (up T 5 n.val):=by
 cases ov with
 | true =>
  have h:Ovr T:=h
  exact h.up 5 n.val
 | false =>
  have h:_∧_:=h
  obtain ⟨h0,h1,h2,h3,h4,h5,h6,h7⟩:=h
  cases he:c4R u.2.2.2.2.2.1 n with
  | true=>exact ⟨5,by decide,by rw [a6L,← h5]; exact c8K he⟩
  | false =>
   refine ⟨by rw [a2F T n.val (by decide)]; exact h0,by rw [a2F T n.val (by decide)]; exact h1,by rw [a2F T n.val (by decide)]; exact h2,by rw [a2F T n.val (by decide)]; exact h3,by rw [a2F T n.val (by decide)]; exact h4,by rw [a6L,← h5]; exact c8P he,by rw [a2F T n.val (by decide)]; exact h6,by rw [a2F T n.val (by decide)]; exact h7⟩
theorem g7K {ov:Bool} {u:d4N} {T:Nat→Nat} (h:PAcc ov u T) (n:U):PAcc (ov || c4R u.2.2.2.2.2.2.1 n) ((u.1,(u.2.1,(u.2.2.1,(u.2.2.2.1,(u.2.2.2.2.1,(u.2.2.2.2.2.1,((d9K u.2.2.2.2.2.2.1 n).1,u.2.2.2.2.2.2.2)))))))) (up T 6 n.val):=by
 cases ov with
 | true =>
  have h:Ovr T:=h
  exact h.up 6 n.val
 | false =>
  have h:_∧_:=h
  obtain ⟨h0,h1,h2,h3,h4,h5,h6,h7⟩:=h
  cases he:c4R u.2.2.2.2.2.2.1 n with
  | true=>exact ⟨6,by decide,by rw [a6L,← h6]; exact c8K he⟩
  | false =>
   refine ⟨by rw [a2F T n.val (by decide)]; exact h0,by rw [a2F T n.val (by decide)]; exact h1,by rw [a2F T n.val (by decide)]; exact h2,by rw [a2F T n.val (by decide)]; exact h3,by rw [a2F T n.val (by decide)]; exact h4,by rw [a2F T n.val (by decide)]; exact h5,by rw [a6L,← h6]; exact c8P he,by rw [a2F T n.val (by decide)]; exact h7⟩
theorem g6I {ov:Bool} {u:d4N} {T:Nat→Nat} (h:PAcc ov u T) (n:U):PAcc (ov || c4R u.2.2.2.2.2.2.2.1 n) ((u.1,(u.2.1,(u.2.2.1,(u.2.2.2.1,(u.2.2.2.2.1,(u.2.2.2.2.2.1,(u.2.2.2.2.2.2.1,((d9K u.2.2.2.2.2.2.2.1 n).1,u.2.2.2.2.2.2.2.2))))))))) (up T 7 n.val):=by
 cases ov with
 | true =>
  have h:Ovr T:=h
  exact h.up 7 n.val
 | false =>
  have h:_∧_:=h
  obtain ⟨h0,h1,h2,h3,h4,h5,h6,h7⟩:=h
  cases he:c4R u.2.2.2.2.2.2.2.1 n with
  | true=>exact ⟨7,by decide,by rw [a6L,← h7]; exact c8K he⟩
  | false =>
   refine ⟨by rw [a2F T n.val (by decide)]; exact h0,by rw [a2F T n.val (by decide)]; exact h1,by rw [a2F T n.val (by decide)]; exact h2,by rw [a2F T n.val (by decide)]; exact h3,by rw [a2F T n.val (by decide)]; exact h4,by rw [a2F T n.val (by decide)]; exact h5,by rw [a2F T n.val (by decide)]; exact h6,by rw [a6L,← h7]; exact c8P he⟩
def f7K (m:Msg):U:=m.2.2.1
noncomputable def e7H (r:Rcp) (i:Nat):Nat:=(((a5Z r).take i).map fun m=>(f7K m).val).sum
theorem d7R {r:Rcp} {i:Nat} (h:i < (a5Z r).length):e7H r (i + 1) = e7H r i + (f7K (rdL a0L (a5Z r) i)).val:=by
 unfold e7H
 rw [List.take_add_one,List.getElem?_eq_getElem h,a4P _ _ _ h,List.map_append,List.sum_append]
 simp
noncomputable def f6V (r:Rcp):Nat:=e7H r (a5Z r).length
def g1F (k:I .i64) (s:b7X) (r:Rcp) (T:Nat→Nat):Nat→Nat :=
 if k.val = 1 then up (up (up (up T 3 (c5Q (b9I r)).val) 4 (b9A (b9I r)).val) 5 (e4L (b9I r)).val) 6 (d2W (b9I r)).val
 else if k.val = 2 then up T 7 (f0C r).val
 else if k.val = 6 then up T 0 (c7M s).val
 else if k.val = 7 then up T 2 (c6Z (e1A s)).val
 else T
noncomputable def f4N (s:b7X) (r:Rcp) (T:Nat→Nat):Nat→Nat:=if (d0H r).val = 0 then g1F (b9J r) s r (up T 1 (f6V r)) else T
noncomputable def dS:b7X:=((I.of .i64 0),(zTx,(a0L,((I.of .u64 0),((I.of .i64 0),(Z_U,((I.of .u64 0),(g2X,()))))))))
noncomputable def dR:Rcp:=f2D (I.of .i64 0)
noncomputable def c2N (l:List b7X) (r:List Rcp):Nat→(Nat→Nat)
 | 0=>fun _=>0
 | i + 1=>f4N (rdL dS l i) (rdL dR r i) (c2N l r i)
def g0N (l:List b7X) (r:List Rcp) (i:Nat):Prop:=(d0H (rdL dR r i)).val = 0→(b9J (rdL dR r i)).val = (a5M (rdL dS l i)).val
noncomputable def g5A (T:Nat→Nat):d4N:=(U.of (T 0),(U.of (T 1),(U.of (T 2),(U.of (T 3),(U.of (T 4),(U.of (T 5),(U.of (T 6),(U.of (T 7),()))))))))
open Classical in
noncomputable def g1S (T:Nat→Nat):d4N × I .i64:=if Ovr T then (a1U,I.of .i64 4) else (g5A T,I.of .i64 0)
theorem f6Z {T:Nat→Nat} (h:Ovr T):g1S T = (a1U,I.of .i64 4):=if_pos h
theorem f7D {T:Nat→Nat} (h:¬ Ovr T):g1S T = (g5A T,I.of .i64 0):=if_neg h
open Classical in
noncomputable def d3V (l:List b7X) (r:List Rcp):d4N × I .i64 :=
 if l.length ≠ r.length then (a1U,I.of .i64 2)
 else if ∀ i,i < l.length→g0N l r i then g1S (c2N l r l.length)
 else (a1U,I.of .i64 2)
theorem PAcc.of {ov ov':Bool} {u:d4N} {T:Nat→Nat} (h:PAcc ov u T) (e:ov = ov'):PAcc ov' u T:=e ▸ h
end Sym

/- Audit: the program's totals. -/
namespace Sym
open Go
theorem d8M {l:List b7X} {r:List Rcp} {i:Nat} (hl:l.length = r.length) (hi:i < l.length) (hc:(d0H (rdL dR r i)).val = 0) (hk:(b9J (rdL dR r i)).val ≠ (a5M (rdL dS l i)).val):d3V l r = (a1U,I.of .i64 2):=by
 unfold d3V
 rw [if_neg (by simp [hl]),if_neg (fun h=>hk (h i hi hc))]
noncomputable abbrev zR:Rcp:=((I.of .i64 0),((I.of .i64 0),(a0Y,(Z_U,(Z_U,((I.of .u64 0),(Z_U,(Z_U,([],())))))))))
theorem d7I (l:List b7X) (r:List Rcp) (hl:l.length ≤ 1000) (hr:r.length ≤ 1073741824) (hm:∀ x ∈ r,(a5Z x).length ≤ 1000):b5M K0 ((l,(r,())),()) = some (((d3V l r).1,((d3V l r).2,())),()):=by
 refine Wp.out (T:=fun o=>o = some (((d3V l r).1,((d3V l r).2,())),())) ?_
 unfold b5M
 have e:I.neb (I.ofNat .i64 (a0K l)) (I.ofNat .i64 (a0K r)) = decide (l.length ≠ r.length):=i6_neb' (n:=l.length) (m:=r.length) (by omega) (by omega)
 refine Wp.brn (fun h=>?_) (fun h=>?_)
 ·
  have h:I.neb (I.ofNat .i64 (a0K l)) (I.ofNat .i64 (a0K r)) = true:=h
  rw [e] at h
  unfold d3V
  rw [if_pos (of_decide_eq_true h)]
  rfl
 have h:I.neb (I.ofNat .i64 (a0K l)) (I.ofNat .i64 (a0K r)) = false:=h
 rw [e] at h
 have hlr:l.length = r.length:=by have:=of_decide_eq_false h; omega
 refine Wp.iter (fun x=>∃ i,i ≤ l.length∧x = ((l,(r,(r,(i6 r.length,(i6 i,()))))),(a1U,()))∧∀ k,k < i→g0N l r k) (fun x=>l.length - x.1.2.2.2.2.1.val.toNat) ?_ ⟨0,by omega,rfl,fun k hk=>by omega⟩ (by rw [a7L]; show l.length - 0 < _; omega)
 rintro x ⟨i,hi,rfl,hk⟩
 have hn:I.add (i6 i) (I.of .i64 1) = i6 (i + 1):=a3S (m:=1) (by omega)
 have hmu:l.length - (I.add (i6 i) (I.of .i64 1)).val.toNat < l.length - (i6 i).val.toNat ∨ l.length ≤ i:=by rw [hn,a0W (by omega),a0W (by omega)]; omega
 have e2:I.ltb (i6 i) (i6 r.length) = decide (i < r.length):=a2U (by omega) (by omega)
 refine Wp.brn (fun hc=>?_) (fun hc=>?_)
 ·
  have hc:I.ltb (i6 i) (i6 r.length) = true:=hc
  rw [e2] at hc
  have hc:=of_decide_eq_true hc
  have hrd:rdL zR r (I.nat (i6 i)) = rdL dR r i:=by rw [a3A (by omega)]; rfl
  have hls:rdL dS l (I.nat (i6 i)) = rdL dS l i:=by rw [a3A (by omega)]
  refine Wp.brnT (a3F (by show i < r.length; omega) (by omega)) ?_
  refine Wp.brn (fun g=>?_) (fun g=>?_)
  ·
   have g:(d0H (rdL zR r (I.nat (i6 i)))).val = 0:=iff_eqb.1 g
   rw [hrd] at g
   refine Wp.brnT (a3F (by show i < l.length; omega) (by omega)) ?_
   refine Wp.brn (fun q=>?_) (fun q=>?_)
   ·
    have q:(b9J (rdL zR r (I.nat (i6 i)))).val ≠ (a5M (rdL dS l (I.nat (i6 i)))).val:=iff_neb.1 q
    rw [hrd,hls] at q
    refine Wp.done ?_
    rw [d8M hlr (by omega) g q]
    rfl
   ·
    have q:(b9J (rdL zR r (I.nat (i6 i)))).val = (a5M (rdL dS l (I.nat (i6 i)))).val:=niff_neb.1 q
    rw [hrd,hls] at q
    refine Wp.again ⟨i + 1,by omega,by show ((l,(r,(r,(i6 r.length,(I.add (i6 i) (I.of .i64 1),()))))),_) = _; rw [hn],fun k hk'=>?_⟩ (hmu.resolve_right (by omega))
    rcases (by omega:k < i ∨ k = i) with h3 | rfl
    ·
     exact hk k h3
    ·
     exact fun _=>q
  ·
   have g:(d0H (rdL zR r (I.nat (i6 i)))).val ≠ 0:=niff_eqb.1 g
   rw [hrd] at g
   refine Wp.again ⟨i + 1,by omega,by show ((l,(r,(r,(i6 r.length,(I.add (i6 i) (I.of .i64 1),()))))),_) = _; rw [hn],fun k hk'=>?_⟩ (hmu.resolve_right (by omega))
   rcases (by omega:k < i ∨ k = i) with h3 | rfl
   ·
    exact hk k h3
   ·
    exact fun h0=>absurd h0 g
 have hc:I.ltb (i6 i) (i6 r.length) = false:=hc
 rw [e2] at hc
 have hc:i = l.length:=by have:=of_decide_eq_false hc; omega
 subst hc
 have hF:d3V l r = g1S (c2N l r l.length):=by
  unfold d3V
  rw [if_neg (by simp [hlr]),if_pos hk]
 clear hmu hn e2 hi
 refine Wp.done ?_
 refine Wp.iter (fun x=>∃ (i:Nat) (u:d4N) (ov:Bool),i ≤ l.length∧x = ((l,(r,(i6 r.length,(i6 i,())))),(a1U,(u,((ov,()),()))))∧PAcc ov u (c2N l r i)) (fun x=>l.length - x.1.2.2.2.1.val.toNat) ?_ ⟨0,_,_,by omega,rfl,rfl,rfl,rfl,rfl,rfl,rfl,rfl,rfl⟩ (by rw [a7L]; show l.length - 0 < _; omega)
 rintro x ⟨i,u,ov,hi,rfl,hP⟩
 have hn:I.add (i6 i) (I.of .i64 1) = i6 (i + 1):=a3S (m:=1) (by omega)
 have hmu:l.length - (I.add (i6 i) (I.of .i64 1)).val.toNat < l.length - (i6 i).val.toNat ∨ l.length ≤ i:=by rw [hn,a0W (by omega),a0W (by omega)]; omega
 have e2:I.ltb (i6 i) (i6 r.length) = decide (i < r.length):=a2U (by omega) (by omega)
 refine Wp.brn (fun hc=>?_) (fun hc=>?_)
 case refine_2 =>
  have hc:I.ltb (i6 i) (i6 r.length) = false:=hc
  rw [e2] at hc
  have hc:i = l.length:=by have:=of_decide_eq_false hc; omega
  subst hc
  refine Wp.done (Wp.brn (fun ho=>?_) (fun ho=>?_))
  ·
   have ho:ov = true:=ho
   subst ho
   have hP:Ovr (c2N l r l.length):=hP
   rw [hF,f6Z hP]
   rfl
  ·
   have ho:ov = false:=ho
   subst ho
   have hP:_∧_:=hP
   obtain ⟨h0,h1,h2,h3,h4,h5,h6,h7⟩:=hP
   have hno:¬ Ovr (c2N l r l.length):=by
    rintro ⟨j,hj,h⟩
    have t0:=U.lt u.1; have t1:=U.lt u.2.1; have t2:=U.lt u.2.2.1; have t3:=U.lt u.2.2.2.1
    have t4:=U.lt u.2.2.2.2.1; have t5:=U.lt u.2.2.2.2.2.1; have t6:=U.lt u.2.2.2.2.2.2.1; have t7:=U.lt u.2.2.2.2.2.2.2.1
    rcases (by omega:j = 0 ∨ j = 1 ∨ j = 2 ∨ j = 3 ∨ j = 4 ∨ j = 5 ∨ j = 6 ∨ j = 7) with rfl | rfl | rfl | rfl | rfl | rfl | rfl | rfl <;> omega
   rw [hF,f7D hno]
   have hV:g5A (c2N l r l.length) = u:=by
    unfold g5A
    rw [← h0,← h1,← h2,← h3,← h4,← h5,← h6,← h7]
    simp only [U.of_val]
   rw [hV]
   rfl
 have hc:I.ltb (i6 i) (i6 r.length) = true:=hc
 rw [e2] at hc
 have hc:=of_decide_eq_true hc
 have hrd:rdL zR r (I.nat (i6 i)) = rdL dR r i:=by rw [a3A (by omega)]; rfl
 have hls:rdL dS l (I.nat (i6 i)) = rdL dS l i:=by rw [a3A (by omega)]
 refine Wp.brnT (a3F (by show i < r.length; omega) (by omega)) ?_
 refine Wp.brn (fun g=>?_) (fun g=>?_)
 case refine_2 =>
  have g:(d0H (rdL zR r (I.nat (i6 i)))).val ≠ 0:=niff_eqb.1 g
  rw [hrd] at g
  refine Wp.again ⟨i + 1,u,ov,by omega,by show ((l,(r,(i6 r.length,(I.add (i6 i) (I.of .i64 1),())))),_) = _; rw [hn]; rfl,?_⟩ (hmu.resolve_right (by omega))
  have:c2N l r (i + 1) = c2N l r i:=by
   show f4N _ _ _ = _
   unfold f4N
   rw [if_neg g]
  rw [this]
  exact hP
 have g:(d0H (rdL zR r (I.nat (i6 i)))).val = 0:=iff_eqb.1 g
 rw [hrd] at g
 have hkk:=hk i (by omega) g
 refine Wp.brnT (a3F (by show i < l.length; omega) (by omega)) ?_
 have hS:c2N l r (i + 1) = g1F (a5M (rdL dS l i)) (rdL dS l i) (rdL dR r i) (up (c2N l r i) 1 (f6V (rdL dR r i))):=by
  show f4N _ _ _ = _
  unfold f4N
  rw [if_pos g]
  unfold g1F
  rw [hkk]
 have hML:=hm (rdL dR r i) (b8U _ _ _ hc)
 have hfin:∀ (ov':Bool) (u':d4N),PAcc ov' u' (c2N l r (i + 1))→Wp (Rnd (fun o:Option _=>o = some (((d3V l r).1,((d3V l r).2,())),())) (fun x=>∃ (i:Nat) (u:d4N) (ov:Bool),i ≤ l.length∧x = ((l,(r,(i6 r.length,(i6 i,())))),(a1U,(u,((ov,()),()))))∧PAcc ov u (c2N l r i)) (fun x=>l.length - x.1.2.2.2.1.val.toNat) (l.length - (i6 i).val.toNat)) (.again ((l,(r,(i6 r.length,(I.add (i6 i) (I.of .i64 1),())))),(a1U,(u',((ov',()),()))))):=by
  intro ov' u' h'
  exact Wp.again ⟨i + 1,u',ov',by omega,by rw [hn],h'⟩ (hmu.resolve_right (by omega))
 have hms:a5Z (rdL zR r (I.nat (i6 i))) = a5Z (rdL dR r i):=by rw [hrd]
 refine Wp.iter (fun x=>∃ (q:Nat) (u':d4N) (ov':Bool),q ≤ (a5Z (rdL zR r (I.nat (i6 i)))).length∧x = ((a5Z (rdL zR r (I.nat (i6 i))),(I.ofNat .i64 (a0K (a5Z (rdL zR r (I.nat (i6 i))))),(i6 q,(l,(r,(i6 r.length,(i6 i,()))))))),((ov',()),(u',(rdL dS l (I.nat (i6 i)),(rdL zR r (I.nat (i6 i)),(a1U,()))))))∧PAcc ov' u' (up (c2N l r i) 1 (e7H (rdL dR r i) q))) (fun x=>(a5Z (rdL zR r (I.nat (i6 i)))).length - x.1.2.2.1.val.toNat) ?_ ⟨0,u,ov,by omega,rfl,?_⟩ (by rw [a7L,hms]; show _ - 0 < _; omega)
 case refine_2 =>
  have:up (c2N l r i) 1 (e7H (rdL dR r i) 0) = c2N l r i:=by
   funext j
   unfold up
   split
   ·
    exact Nat.add_zero _
   ·
    rfl
  rw [this]
  exact hP
 rintro x ⟨q,v,w,hq,rfl,hQ⟩
 have hql:q ≤ 1000:=by rw [hms] at hq; omega
 have hn2:I.add (i6 q) (I.of .i64 1) = i6 (q + 1):=a3S (m:=1) (by omega)
 have e3:I.ltb (i6 q) (I.ofNat .i64 (a0K (a5Z (rdL zR r (I.nat (i6 i)))))) = decide (q < (a5Z (rdL zR r (I.nat (i6 i)))).length):=a2U (n:=q) (by omega) (by show (a5Z (rdL zR r (I.nat (i6 i)))).length < _; rw [hms]; omega)
 refine Wp.brn (fun hc2=>?_) (fun hc2=>?_)
 ·
  have hc2:I.ltb (i6 q) (I.ofNat .i64 (a0K (a5Z (rdL zR r (I.nat (i6 i)))))) = true:=hc2
  rw [e3] at hc2
  have hc2:=of_decide_eq_true hc2
  refine Wp.brnT (by show inB (i6 q) (a5Z (rdL zR r (I.nat (i6 i)))).length = true; exact a3F hc2 (by omega)) ?_
  refine Wp.optF (a3L v.2.1 (f7K (rdL a0L (a5Z (rdL zR r (I.nat (i6 i)))) (I.nat (i6 q))))) ?_
  have hA:=g5M hQ (f7K (rdL a0L (a5Z (rdL zR r (I.nat (i6 i)))) (I.nat (i6 q))))
  have hT:up (up (c2N l r i) 1 (e7H (rdL dR r i) q)) 1 (f7K (rdL a0L (a5Z (rdL zR r (I.nat (i6 i)))) (I.nat (i6 q)))).val = up (c2N l r i) 1 (e7H (rdL dR r i) (q + 1)):=by
   rw [hms,a3A (by omega),d7R (by rw [← hms]; exact hc2)]
   funext j
   unfold up
   split
   ·
    omega
   ·
    rfl
  rw [hT] at hA
  have hmu2:(a5Z (rdL zR r (I.nat (i6 i)))).length - (I.add (i6 q) (I.of .i64 1)).val.toNat < (a5Z (rdL zR r (I.nat (i6 i)))).length - (i6 q).val.toNat:=by rw [hn2,a0W (by omega),a0W (by omega)]; omega
  refine Wp.brn (fun ho=>?_) (fun ho=>?_)
  ·
   have ho:w = true:=ho
   exact Wp.again ⟨q + 1,_,true,by omega,by rw [← hn2],hA.of (by rw [ho]; rfl)⟩ hmu2
  ·
   have ho:w = false:=ho
   exact Wp.again ⟨q + 1,_,_,by omega,by rw [← hn2],hA.of (by rw [ho]; rfl)⟩ hmu2
 ·
  have hc2:I.ltb (i6 q) (I.ofNat .i64 (a0K (a5Z (rdL zR r (I.nat (i6 i)))))) = false:=hc2
  rw [e3] at hc2
  have hq2:q = (a5Z (rdL dR r i)).length:=by have:=of_decide_eq_false hc2; rw [hms] at this hq; omega
  have hQ:PAcc w v (up (c2N l r i) 1 (f6V (rdL dR r i))):=by rw [hq2] at hQ; exact hQ
  clear hms hc2 e3 hq
  have hsk:a5M (rdL dS l (I.nat (i6 i))) = a5M (rdL dS l i):=by rw [hls]
  unfold g1F at hS
  refine Wp.done ?_
  refine Wp.brn (fun k1=>?_) (fun k1=>?_)
  ·
   have k1:(a5M (rdL dS l (I.nat (i6 i)))).val = 1:=iff_eqb.1 k1
   rw [hsk] at k1
   rw [if_pos k1] at hS
   have h3:=g5O hQ (c5Q (b9I (rdL dR r i)))
   have h4:=g7B h3 (b9A (b9I (rdL dR r i)))
   have h5:=g6P h4 (e4L (b9I (rdL dR r i)))
   have h6:=g7K h5 (d2W (b9I (rdL dR r i)))
   rw [← hS,← hrd] at h6
   clear h3 h4 h5
   refine Wp.optF (a3L v.2.2.2.1 (c5Q (b9I (rdL zR r (I.nat (i6 i)))))) ?_
   refine Wp.brn (fun ho=>?_) (fun ho=>?_)
   ·
    have ho:w = true:=ho
    refine Wp.optF (a3L v.2.2.2.2.1 (b9A (b9I (rdL zR r (I.nat (i6 i)))))) (Wp.optF (a3L v.2.2.2.2.2.1 (e4L (b9I (rdL zR r (I.nat (i6 i)))))) (Wp.optF (a3L v.2.2.2.2.2.2.1 (d2W (b9I (rdL zR r (I.nat (i6 i)))))) (hfin _ _ (h6.of ?_))))
    rw [ho]; rfl
   have ho:w = false:=ho
   subst ho
   refine Wp.optF (a3L v.2.2.2.2.1 (b9A (b9I (rdL zR r (I.nat (i6 i)))))) ?_
   refine Wp.brn (fun o3=>?_) (fun o3=>?_)
   ·
    have o3:c4R v.2.2.2.1 (c5Q (b9I (rdL zR r (I.nat (i6 i))))) = true:=o3
    refine Wp.optF (a3L v.2.2.2.2.2.1 (e4L (b9I (rdL zR r (I.nat (i6 i)))))) (Wp.optF (a3L v.2.2.2.2.2.2.1 (d2W (b9I (rdL zR r (I.nat (i6 i)))))) (hfin _ _ (h6.of ?_)))
    rw [o3]; rfl
   have o3:c4R v.2.2.2.1 (c5Q (b9I (rdL zR r (I.nat (i6 i))))) = false:=o3
   refine Wp.optF (a3L v.2.2.2.2.2.1 (e4L (b9I (rdL zR r (I.nat (i6 i)))))) ?_
   refine Wp.brn (fun o4=>?_) (fun o4=>?_)
   ·
    have o4:c4R v.2.2.2.2.1 (b9A (b9I (rdL zR r (I.nat (i6 i))))) = true:=o4
    refine Wp.optF (a3L v.2.2.2.2.2.2.1 (d2W (b9I (rdL zR r (I.nat (i6 i)))))) (hfin _ _ (h6.of ?_))
    have o4:c4R ((v.1,(v.2.1,(v.2.2.1,((d9K v.2.2.2.1 (c5Q (b9I (rdL zR r (I.nat (i6 i)))))).1,v.2.2.2.2)))):d4N).2.2.2.2.1 (b9A (b9I (rdL zR r (I.nat (i6 i))))) = true:=o4
    rw [o3,o4]; rfl
   have o4:c4R ((v.1,(v.2.1,(v.2.2.1,((d9K v.2.2.2.1 (c5Q (b9I (rdL zR r (I.nat (i6 i)))))).1,v.2.2.2.2)))):d4N).2.2.2.2.1 (b9A (b9I (rdL zR r (I.nat (i6 i))))) = false:=o4
   refine Wp.optF (a3L v.2.2.2.2.2.2.1 (d2W (b9I (rdL zR r (I.nat (i6 i)))))) ?_
   refine Wp.brn (fun o5=>?_) (fun o5=>?_)
   ·
    have o5:c4R v.2.2.2.2.2.1 (e4L (b9I (rdL zR r (I.nat (i6 i))))) = true:=o5
    refine hfin _ _ (h6.of ?_)
    show ((((false || c4R _ _) || c4R _ _) || c4R v.2.2.2.2.2.1 (e4L (b9I (rdL zR r (I.nat (i6 i)))))) || _) = true
    rw [o5]
    simp
   have o5:c4R v.2.2.2.2.2.1 (e4L (b9I (rdL zR r (I.nat (i6 i))))) = false:=o5
   refine hfin _ _ (h6.of ?_)
   show ((((false || c4R v.2.2.2.1 (c5Q (b9I (rdL zR r (I.nat (i6 i)))))) || c4R v.2.2.2.2.1 (b9A (b9I (rdL zR r (I.nat (i6 i)))))) || c4R v.2.2.2.2.2.1 (e4L (b9I (rdL zR r (I.nat (i6 i)))))) || _) = _
   have o4:c4R v.2.2.2.2.1 (b9A (b9I (rdL zR r (I.nat (i6 i))))) = false:=o4
   rw [o3,o4,o5]
   rfl
  have k1:(a5M (rdL dS l (I.nat (i6 i)))).val ≠ 1:=niff_eqb.1 k1
  rw [hsk] at k1
  rw [if_neg k1] at hS
  refine Wp.brn (fun k2=>?_) (fun k2=>?_)
  ·
   have k2:(a5M (rdL dS l (I.nat (i6 i)))).val = 2:=iff_eqb.1 k2
   rw [hsk] at k2
   rw [if_pos k2] at hS
   have h7:=g6I hQ (f0C (rdL dR r i))
   rw [← hS,← hrd] at h7
   refine Wp.optF (a3L v.2.2.2.2.2.2.2.1 (f0C (rdL zR r (I.nat (i6 i))))) (Wp.brn (fun ho=>?_) (fun ho=>?_))
   ·
    have ho:w = true:=ho
    exact hfin _ _ (h7.of (by rw [ho]; rfl))
   ·
    have ho:w = false:=ho
    exact hfin _ _ (h7.of (by rw [ho]; rfl))
  have k2:(a5M (rdL dS l (I.nat (i6 i)))).val ≠ 2:=niff_eqb.1 k2
  rw [hsk] at k2
  rw [if_neg k2] at hS
  refine Wp.brn (fun k6=>?_) (fun k6=>?_)
  ·
   have k6:(a5M (rdL dS l (I.nat (i6 i)))).val = 6:=iff_eqb.1 k6
   rw [hsk] at k6
   rw [if_pos k6] at hS
   have h0:=g5X hQ (c7M (rdL dS l i))
   rw [← hS,← hls] at h0
   refine Wp.optF (a3L v.1 (c7M (rdL dS l (I.nat (i6 i))))) (Wp.brn (fun ho=>?_) (fun ho=>?_))
   ·
    have ho:w = true:=ho
    exact hfin _ _ (h0.of (by rw [ho]; rfl))
   ·
    have ho:w = false:=ho
    exact hfin _ _ (h0.of (by rw [ho]; rfl))
  have k6:(a5M (rdL dS l (I.nat (i6 i)))).val ≠ 6:=niff_eqb.1 k6
  rw [hsk] at k6
  rw [if_neg k6] at hS
  refine Wp.brn (fun k7=>?_) (fun k7=>?_)
  ·
   have k7:(a5M (rdL dS l (I.nat (i6 i)))).val = 7:=iff_eqb.1 k7
   rw [hsk] at k7
   rw [if_pos k7] at hS
   have h2:=g8C hQ (c6Z (e1A (rdL dS l i)))
   rw [← hS,← hls] at h2
   refine Wp.optF (a3L v.2.2.1 (c6Z (e1A (rdL dS l (I.nat (i6 i)))))) (Wp.brn (fun ho=>?_) (fun ho=>?_))
   ·
    have ho:w = true:=ho
    exact hfin _ _ (h2.of (by rw [ho]; rfl))
   ·
    have ho:w = false:=ho
    exact hfin _ _ (h2.of (by rw [ho]; rfl))
  have k7:(a5M (rdL dS l (I.nat (i6 i)))).val ≠ 7:=niff_eqb.1 k7
  rw [hsk] at k7
  rw [if_neg k7] at hS
  rw [← hS] at hQ
  exact hfin _ _ hQ
end Sym

/- Audit: the reference's totals. -/
namespace Sym
open Go
abbrev Bg8:Type:=c6N
structure RAcc (b:Bg8) (ov:Bool) (T:Nat→Nat) (c:Nat):Prop where
 i0:IsB b.1 (T 0)
 i1:IsB b.2.1 (T 1)
 i2:IsB b.2.2.1 (T 2)
 i3:IsB b.2.2.2.1 (T 3)
 i4:IsB b.2.2.2.2.1 (T 4)
 i5:IsB b.2.2.2.2.2.1 (T 5)
 i6:IsB b.2.2.2.2.2.2.1 (T 6)
 i7:IsB b.2.2.2.2.2.2.2.1 (T 7)
 ov:ov = true ↔ Ovr T
 le:∀ j,T j ≤ c * U.top
theorem Tlt {T:Nat→Nat} {c j:Nat} (h:T j ≤ c * U.top) (hc:c ≤ 100000000):T j < P40:=by
 have h1:c * U.top ≤ 100000000 * U.top:=Nat.mul_le_mul_right _ hc
 have h2:100000000 * U.top < P40:=by decide +kernel
 omega
theorem d8V {ov:Bool} {T:Nat→Nat} (h:ov = true ↔ Ovr T) (j:Nat) (hj:j < 8) (n:Nat):(ov || a4O (decide (T j + n < U.top))) = true ↔ Ovr (up T j n):=by
 constructor
 ·
  intro g
  rcases Bool.or_eq_true _ _ ▸ g with g | g
  ·
   exact (h.1 g).up j n
  ·
   have g:=of_decide_eq_false (g0R g)
   exact ⟨j,hj,by rw [a6L]; omega⟩
 ·
  rintro ⟨i,hi,g⟩
  by_cases e:i = j
  ·
   subst e
   rw [a6L] at g
   rw [decide_eq_false (by omega)]
   simp [a4O]
  ·
   rw [a2F T n e] at g
   rw [h.2 ⟨i,hi,g⟩]
   rfl
theorem d8G {T:Nat→Nat} {c:Nat} (h:∀ j,T j ≤ c * U.top) (j:Nat) (n:U):∀ i,up T j n.val i ≤ (c + 1) * U.top:=by
 intro i
 have h1:=h i
 have h2:=U.lt n
 rw [Nat.add_mul]
 unfold up
 split <;> omega
theorem RAcc.of {b:Bg8} {ov ov':Bool} {T:Nat→Nat} {c:Nat} (h:RAcc b ov T c) (e:ov = ov'):RAcc b ov' T c:=e ▸ h
theorem g5J {b:Bg8} {ov:Bool} {T:Nat→Nat} {c:Nat} (h:RAcc b ov T c) (n:U) {r:List (I .i64)} (hr:IsB r (T 0 + n.val)):RAcc ((r,(b.2.1,(b.2.2.1,(b.2.2.2.1,(b.2.2.2.2.1,(b.2.2.2.2.2.1,(b.2.2.2.2.2.2.1,(b.2.2.2.2.2.2.2.1,()))))))))) (ov || a4O (decide (T 0 + n.val < U.top))) (up T 0 n.val) (c + 1) :=
 ⟨by rw [a6L]; exact hr,by rw [a2F T n.val (by decide)]; exact h.i1,by rw [a2F T n.val (by decide)]; exact h.i2,by rw [a2F T n.val (by decide)]; exact h.i3,by rw [a2F T n.val (by decide)]; exact h.i4,by rw [a2F T n.val (by decide)]; exact h.i5,by rw [a2F T n.val (by decide)]; exact h.i6,by rw [a2F T n.val (by decide)]; exact h.i7,d8V h.ov 0 (by decide) n.val,d8G h.le 0 n⟩
theorem g5U {b:Bg8} {ov:Bool} {T:Nat→Nat} {c:Nat} (h:RAcc b ov T c) (n:U) {r:List (I .i64)} (hr:IsB r (T 1 + n.val)):RAcc ((b.1,(r,(b.2.2.1,(b.2.2.2.1,(b.2.2.2.2.1,(b.2.2.2.2.2.1,(b.2.2.2.2.2.2.1,(b.2.2.2.2.2.2.2.1,()))))))))) (ov || a4O (decide (T 1 + n.val < U.top))) (up T 1 n.val) (c + 1) :=
 ⟨by rw [a2F T n.val (by decide)]; exact h.i0,by rw [a6L]; exact hr,by rw [a2F T n.val (by decide)]; exact h.i2,by rw [a2F T n.val (by decide)]; exact h.i3,by rw [a2F T n.val (by decide)]; exact h.i4,by rw [a2F T n.val (by decide)]; exact h.i5,by rw [a2F T n.val (by decide)]; exact h.i6,by rw [a2F T n.val (by decide)]; exact h.i7,d8V h.ov 1 (by decide) n.val,d8G h.le 1 n⟩
theorem g6N {b:Bg8} {ov:Bool} {T:Nat→Nat} {c:Nat} (h:RAcc b ov T c) (n:U) {r:List (I .i64)} (hr:IsB r (T 2 + n.val)):RAcc ((b.1,(b.2.1,(r,(b.2.2.2.1,(b.2.2.2.2.1,(b.2.2.2.2.2.1,(b.2.2.2.2.2.2.1,(b.2.2.2.2.2.2.2.1,()))))))))) (ov || a4O (decide (T 2 + n.val < U.top))) (up T 2 n.val) (c + 1) :=
 ⟨by rw [a2F T n.val (by decide)]; exact h.i0,by rw [a2F T n.val (by decide)]; exact h.i1,by rw [a6L]; exact hr,by rw [a2F T n.val (by decide)]; exact h.i3,by rw [a2F T n.val (by decide)]; exact h.i4,by rw [a2F T n.val (by decide)]; exact h.i5,by rw [a2F T n.val (by decide)]; exact h.i6,by rw [a2F T n.val (by decide)]; exact h.i7,d8V h.ov 2 (by decide) n.val,d8G h.le 2 n⟩
theorem g7X {b:Bg8} {ov:Bool} {T:Nat→Nat} {c:Nat} (h:RAcc b ov T c) (n:U) {r:List (I .i64)} (hr:IsB r (T 3 + n.val)):RAcc ((b.1,(b.2.1,(b.2.2.1,(r,(b.2.2.2.2.1,(b.2.2.2.2.2.1,(b.2.2.2.2.2.2.1,(b.2.2.2.2.2.2.2.1,()))))))))) (ov || a4O (decide (T 3 + n.val < U.top))) (up T 3 n.val) (c + 1) :=
 ⟨by rw [a2F T n.val (by decide)]; exact h.i0,by rw [a2F T n.val (by decide)]; exact h.i1,by rw [a2F T n.val (by decide)]; exact h.i2,by rw [a6L]; exact hr,by rw [a2F T n.val (by decide)]; exact h.i4,by rw [a2F T n.val (by decide)]; exact h.i5,by rw [a2F T n.val (by decide)]; exact h.i6,by rw [a2F T n.val (by decide)]; exact h.i7,d8V h.ov 3 (by decide) n.val,d8G h.le 3 n⟩
theorem g5S {b:Bg8} {ov:Bool} {T:Nat→Nat} {c:Nat} (h:RAcc b ov T c) (n:U) {r:List (I .i64)} (hr:IsB r (T 4 + n.val)):RAcc ((b.1,(b.2.1,(b.2.2.1,(b.2.2.2.1,(r,(b.2.2.2.2.2.1,(b.2.2.2.2.2.2.1,(b.2.2.2.2.2.2.2.1,()))))))))) (ov || a4O (decide (T 4 + n.val < U.top))) (up T 4 n.val) (c + 1) :=
 ⟨by rw [a2F T n.val (by decide)]; exact h.i0,by rw [a2F T n.val (by decide)]; exact h.i1,by rw [a2F T n.val (by decide)]; exact h.i2,by rw [a2F T n.val (by decide)]; exact h.i3,by rw [a6L]; exact hr,by rw [a2F T n.val (by decide)]; exact h.i5,by rw [a2F T n.val (by decide)]; exact h.i6,by rw [a2F T n.val (by decide)]; exact h.i7,d8V h.ov 4 (by decide) n.val,d8G h.le 4 n⟩
theorem g7H {b:Bg8} {ov:Bool} {T:Nat→Nat} {c:Nat} (h:RAcc b ov T c) (n:U) {r:List (I .i64)} (hr:IsB r (T 5 + n.val)):RAcc ((b.1,(b.2.1,(b.2.2.1,(b.2.2.2.1,(b.2.2.2.2.1,(r,(b.2.2.2.2.2.2.1,(b.2.2.2.2.2.2.2.1,()))))))))) (ov || a4O (decide (T 5 + n.val < U.top))) (up T 5 n.val) (c + 1) :=
 ⟨by rw [a2F T n.val (by decide)]; exact h.i0,by rw [a2F T n.val (by decide)]; exact h.i1,by rw [a2F T n.val (by decide)]; exact h.i2,by rw [a2F T n.val (by decide)]; exact h.i3,by rw [a2F T n.val (by decide)]; exact h.i4,by rw [a6L]; exact hr,by rw [a2F T n.val (by decide)]; exact h.i6,by rw [a2F T n.val (by decide)]; exact h.i7,d8V h.ov 5 (by decide) n.val,d8G h.le 5 n⟩
theorem g8I {b:Bg8} {ov:Bool} {T:Nat→Nat} {c:Nat} (h:RAcc b ov T c) (n:U) {r:List (I .i64)} (hr:IsB r (T 6 + n.val)):RAcc ((b.1,(b.2.1,(b.2.2.1,(b.2.2.2.1,(b.2.2.2.2.1,(b.2.2.2.2.2.1,(r,(b.2.2.2.2.2.2.2.1,()))))))))) (ov || a4O (decide (T 6 + n.val < U.top))) (up T 6 n.val) (c + 1) :=
 ⟨by rw [a2F T n.val (by decide)]; exact h.i0,by rw [a2F T n.val (by decide)]; exact h.i1,by rw [a2F T n.val (by decide)]; exact h.i2,by rw [a2F T n.val (by decide)]; exact h.i3,by rw [a2F T n.val (by decide)]; exact h.i4,by rw [a2F T n.val (by decide)]; exact h.i5,by rw [a6L]; exact hr,by rw [a2F T n.val (by decide)]; exact h.i7,d8V h.ov 6 (by decide) n.val,d8G h.le 6 n⟩
theorem g7N {b:Bg8} {ov:Bool} {T:Nat→Nat} {c:Nat} (h:RAcc b ov T c) (n:U) {r:List (I .i64)} (hr:IsB r (T 7 + n.val)):RAcc ((b.1,(b.2.1,(b.2.2.1,(b.2.2.2.1,(b.2.2.2.2.1,(b.2.2.2.2.2.1,(b.2.2.2.2.2.2.1,(r,()))))))))) (ov || a4O (decide (T 7 + n.val < U.top))) (up T 7 n.val) (c + 1) :=
 ⟨by rw [a2F T n.val (by decide)]; exact h.i0,by rw [a2F T n.val (by decide)]; exact h.i1,by rw [a2F T n.val (by decide)]; exact h.i2,by rw [a2F T n.val (by decide)]; exact h.i3,by rw [a2F T n.val (by decide)]; exact h.i4,by rw [a2F T n.val (by decide)]; exact h.i5,by rw [a2F T n.val (by decide)]; exact h.i6,by rw [a6L]; exact hr,d8V h.ov 7 (by decide) n.val,d8G h.le 7 n⟩
theorem b9S {T:Nat→Nat} {j c:Nat} {l:List (I .i64)} (h:IsB l (T j)) (hle:∀ j,T j ≤ c * U.top) (hc:c ≤ 100000000) (n:U):∃ s r,a0B K0 ((n,()),()) = some ((s,()),())∧a0X K0 ((l,(s,())),()) = some ((r,()),())∧IsB r (T j + n.val)∧a1K K0 ((r,()),()) = some ((decide (T j + n.val < U.top),()),()):=by
 obtain ⟨s,hs,hB⟩:=a1I n
 obtain ⟨r,hr,hR⟩:=b1W h hB (lenK' h (Tlt (hle j) hc)) (e2L hB)
 have hlt:T j + n.val < P40:=by
  have:=Tlt (T:=fun _=>T j + n.val) (c:=c + 1) (j:=0) (by have:=hle j; have:=U.lt n; rw [Nat.add_mul]; show T j + n.val ≤ _; omega)
  by_cases h8:c + 1 ≤ 100000000
  ·
   exact this h8
  ·
   have h1:c * U.top ≤ 100000000 * U.top:=Nat.mul_le_mul_right _ hc
   have h2:100000000 * U.top + U.top < P40:=by decide +kernel
   have:=hle j
   have:=U.lt n
   omega
 exact ⟨s,r,hs,hr,hR,d3D hR (lenK' hR hlt)⟩
end Sym

/- Audit: the reference's totals, told as the program's. -/
namespace Sym
open Go
theorem RAcc.mono {b:Bg8} {ov:Bool} {T:Nat→Nat} {c d:Nat} (h:RAcc b ov T c) (hc:c ≤ d):RAcc b ov T d :=
 ⟨h.i0,h.i1,h.i2,h.i3,h.i4,h.i5,h.i6,h.i7,h.ov,fun j=>Nat.le_trans (h.le j) (Nat.mul_le_mul_right _ hc)⟩
noncomputable abbrev zAd:b2K:=((([]:List (I .i64)),([],([],([],([],([],([],([],())))))))),(false,()))
theorem f7B:IsB ([]:List (I .i64)) 0:=⟨(fun _ h=>by cases h),trivial,rfl⟩
theorem d7X (l:List b7X) (r:List Rcp) (hl:l.length ≤ 1000) (hr:r.length ≤ 1073741824) (hm:∀ x ∈ r,(a5Z x).length ≤ 1000):a9E K0 ((l,(r,())),()) = some (((d3V l r).1,((d3V l r).2,())),()):=by
 refine Wp.out (T:=fun o=>o = some (((d3V l r).1,((d3V l r).2,())),())) ?_
 unfold a9E
 have e:I.neb (I.ofNat .i64 (a0K l)) (I.ofNat .i64 (a0K r)) = decide (l.length ≠ r.length):=i6_neb' (n:=l.length) (m:=r.length) (by omega) (by omega)
 refine Wp.brn (fun h=>?_) (fun h=>?_)
 ·
  have h:I.neb (I.ofNat .i64 (a0K l)) (I.ofNat .i64 (a0K r)) = true:=h
  rw [e] at h
  unfold d3V
  rw [if_pos (of_decide_eq_true h)]
  rfl
 have h:I.neb (I.ofNat .i64 (a0K l)) (I.ofNat .i64 (a0K r)) = false:=h
 rw [e] at h
 have hlr:l.length = r.length:=by have:=of_decide_eq_false h; omega
 refine Wp.iter (fun x=>∃ i,i ≤ l.length∧x = ((l,(r,(i6 i,()))),(a1U,(zAd,())))∧∀ k,k < i→g0N l r k) (fun x=>l.length - x.1.2.2.1.val.toNat) ?_ ⟨0,by omega,rfl,fun k hk=>by omega⟩ (by rw [a7L]; show l.length - 0 < _; omega)
 rintro x ⟨i,hi,rfl,hk⟩
 have hn:I.add (i6 i) (I.of .i64 1) = i6 (i + 1):=a3S (m:=1) (by omega)
 have hmu:l.length - (I.add (i6 i) (I.of .i64 1)).val.toNat < l.length - (i6 i).val.toNat ∨ l.length ≤ i:=by rw [hn,a0W (by omega),a0W (by omega)]; omega
 have e2:I.ltb (i6 i) (I.ofNat .i64 (a0K l)) = decide (i < l.length):=a2U (n:=i) (m:=l.length) (by omega) (by omega)
 refine Wp.brn (fun hc=>?_) (fun hc=>?_)
 ·
  have hc:I.ltb (i6 i) (I.ofNat .i64 (a0K l)) = true:=hc
  rw [e2] at hc
  have hc:=of_decide_eq_true hc
  have hrd:rdL zR r (I.nat (i6 i)) = rdL dR r i:=by rw [a3A (by omega)]; rfl
  have hls:rdL dS l (I.nat (i6 i)) = rdL dS l i:=by rw [a3A (by omega)]
  refine Wp.brnT (a3F (by show i < r.length; omega) (by omega)) ?_
  refine Wp.brn (fun g=>?_) (fun g=>?_)
  ·
   have g:(d0H (rdL zR r (I.nat (i6 i)))).val = 0:=iff_eqb.1 g
   rw [hrd] at g
   refine Wp.brnT (a3F (by show i < r.length; omega) (by omega)) (Wp.brnT (a3F (by show i < l.length; omega) (by omega)) ?_)
   refine Wp.brn (fun q=>?_) (fun q=>?_)
   ·
    have q:(b9J (rdL zR r (I.nat (i6 i)))).val ≠ (a5M (rdL dS l (I.nat (i6 i)))).val:=iff_neb.1 q
    rw [hrd,hls] at q
    refine Wp.done ?_
    rw [d8M hlr (by omega) g q]
    rfl
   ·
    have q:(b9J (rdL zR r (I.nat (i6 i)))).val = (a5M (rdL dS l (I.nat (i6 i)))).val:=niff_neb.1 q
    rw [hrd,hls] at q
    refine Wp.again ⟨i + 1,by omega,by show ((l,(r,(I.add (i6 i) (I.of .i64 1),()))),_) = _; rw [hn],fun k hk'=>?_⟩ (hmu.resolve_right (by omega))
    rcases (by omega:k < i ∨ k = i) with h3 | rfl
    ·
     exact hk k h3
    ·
     exact fun _=>q
  ·
   have g:(d0H (rdL zR r (I.nat (i6 i)))).val ≠ 0:=niff_eqb.1 g
   rw [hrd] at g
   refine Wp.again ⟨i + 1,by omega,by show ((l,(r,(I.add (i6 i) (I.of .i64 1),()))),_) = _; rw [hn],fun k hk'=>?_⟩ (hmu.resolve_right (by omega))
   rcases (by omega:k < i ∨ k = i) with h3 | rfl
   ·
    exact hk k h3
   ·
    exact fun h0=>absurd h0 g
 have hc:I.ltb (i6 i) (I.ofNat .i64 (a0K l)) = false:=hc
 rw [e2] at hc
 have hc:i = l.length:=by have:=of_decide_eq_false hc; omega
 subst hc
 have hF:d3V l r = g1S (c2N l r l.length):=by
  unfold d3V
  rw [if_neg (by simp [hlr]),if_pos hk]
 clear hmu hn e2 hi
 refine Wp.done ?_
 refine Wp.iter (fun x=>∃ (i:Nat) (u:Bg8) (ov:Bool),i ≤ l.length∧x = ((l,(r,(i6 i,()))),(a1U,((u,(ov,())),())))∧RAcc u ov (c2N l r i) (1010 * i)) (fun x=>l.length - x.1.2.2.1.val.toNat) ?_ ⟨0,_,_,by omega,rfl,⟨f7B,f7B,f7B,f7B,f7B,f7B,f7B,f7B,⟨(fun h=>by cases h),(fun ⟨j,_,h⟩=>absurd (show U.top ≤ 0 from h) (by decide))⟩,fun j=>Nat.zero_le _⟩⟩ (by rw [a7L]; show l.length - 0 < _; omega)
 rintro x ⟨i,u,ov,hi,rfl,hP⟩
 have hn:I.add (i6 i) (I.of .i64 1) = i6 (i + 1):=a3S (m:=1) (by omega)
 have hmu:l.length - (I.add (i6 i) (I.of .i64 1)).val.toNat < l.length - (i6 i).val.toNat ∨ l.length ≤ i:=by rw [hn,a0W (by omega),a0W (by omega)]; omega
 have e2:I.ltb (i6 i) (I.ofNat .i64 (a0K l)) = decide (i < l.length):=a2U (n:=i) (m:=l.length) (by omega) (by omega)
 refine Wp.brn (fun hc=>?_) (fun hc=>?_)
 case refine_2 =>
  have hc:I.ltb (i6 i) (I.ofNat .i64 (a0K l)) = false:=hc
  rw [e2] at hc
  have hc:i = l.length:=by have:=of_decide_eq_false hc; omega
  subst hc
  refine Wp.done (Wp.brn (fun ho=>?_) (fun ho=>?_))
  ·
   have ho:ov = true:=ho
   rw [hF,f6Z (hP.ov.1 ho)]
   rfl
  ·
   have ho:ov = false:=ho
   have hno:¬ Ovr (c2N l r l.length):=fun h=>by have:=hP.ov.2 h; rw [ho] at this; cases this
   rw [hF,f7D hno]
   have hc:1010 * l.length ≤ 100000000:=by omega
   have t:=fun j (b:List (I .i64)) (h:IsB b (c2N l r l.length j))=>c2L h (lenK' h (Tlt (hP.le j) hc))
   exact Wp.optF (t 0 _ hP.i0) (Wp.optF (t 1 _ hP.i1) (Wp.optF (t 2 _ hP.i2) (Wp.optF (t 3 _ hP.i3) (Wp.optF (t 4 _ hP.i4) (Wp.optF (t 5 _ hP.i5) (Wp.optF (t 6 _ hP.i6) (Wp.optF (t 7 _ hP.i7) rfl)))))))
 have hc:I.ltb (i6 i) (I.ofNat .i64 (a0K l)) = true:=hc
 rw [e2] at hc
 have hc:=of_decide_eq_true hc
 have hrd:rdL zR r (I.nat (i6 i)) = rdL dR r i:=by rw [a3A (by omega)]; rfl
 have hls:rdL dS l (I.nat (i6 i)) = rdL dS l i:=by rw [a3A (by omega)]
 refine Wp.brnT (a3F (by show i < r.length; omega) (by omega)) ?_
 refine Wp.brn (fun g=>?_) (fun g=>?_)
 case refine_2 =>
  have g:(d0H (rdL zR r (I.nat (i6 i)))).val ≠ 0:=niff_eqb.1 g
  rw [hrd] at g
  refine Wp.again ⟨i + 1,u,ov,by omega,by show ((l,(r,(I.add (i6 i) (I.of .i64 1),()))),_) = _; rw [hn]; rfl,?_⟩ (hmu.resolve_right (by omega))
  have:c2N l r (i + 1) = c2N l r i:=by
   show f4N _ _ _ = _
   unfold f4N
   rw [if_neg g]
  rw [this]
  exact hP.mono (by omega)
 have g:(d0H (rdL zR r (I.nat (i6 i)))).val = 0:=iff_eqb.1 g
 rw [hrd] at g
 have hkk:=hk i (by omega) g
 refine Wp.brnT (a3F (by show i < l.length; omega) (by omega)) (Wp.brnT (a3F (by show i < r.length; omega) (by omega)) ?_)
 have hS:c2N l r (i + 1) = g1F (b9J (rdL dR r i)) (rdL dS l i) (rdL dR r i) (up (c2N l r i) 1 (f6V (rdL dR r i))):=by
  show f4N _ _ _ = _
  unfold f4N
  rw [if_pos g]
 have hML:=hm (rdL dR r i) (b8U _ _ _ (by omega))
 have hfin:∀ (ov':Bool) (u':Bg8),RAcc u' ov' (c2N l r (i + 1)) (1010 * (i + 1))→Wp (Rnd (fun o:Option _=>o = some (((d3V l r).1,((d3V l r).2,())),())) (fun x=>∃ (i:Nat) (u:Bg8) (ov:Bool),i ≤ l.length∧x = ((l,(r,(i6 i,()))),(a1U,((u,(ov,())),())))∧RAcc u ov (c2N l r i) (1010 * i)) (fun x=>l.length - x.1.2.2.1.val.toNat) (l.length - (i6 i).val.toNat)) (.again ((l,(r,(I.add (i6 i) (I.of .i64 1),()))),(a1U,((u',(ov',())),())))):=by
  intro ov' u' h'
  exact Wp.again ⟨i + 1,u',ov',by omega,by rw [hn],h'⟩ (hmu.resolve_right (by omega))
 have hms:a5Z (rdL zR r (I.nat (i6 i))) = a5Z (rdL dR r i):=by rw [hrd]
 refine Wp.iter (fun x=>∃ (q:Nat) (u':Bg8) (ov':Bool),q ≤ (a5Z (rdL zR r (I.nat (i6 i)))).length∧x = ((i6 q,(l,(r,(i6 i,())))),((u',(ov',())),(rdL dS l (I.nat (i6 i)),(rdL zR r (I.nat (i6 i)),(a1U,())))))∧RAcc u' ov' (up (c2N l r i) 1 (e7H (rdL dR r i) q)) (1010 * i + q)) (fun x=>(a5Z (rdL zR r (I.nat (i6 i)))).length - x.1.1.val.toNat) ?_ ⟨0,u,ov,by omega,rfl,?_⟩ (by rw [a7L,hms]; show _ - 0 < _; omega)
 case refine_2 =>
  have:up (c2N l r i) 1 (e7H (rdL dR r i) 0) = c2N l r i:=by
   funext j
   unfold up
   split
   ·
    exact Nat.add_zero _
   ·
    rfl
  rw [this]
  exact hP
 rintro x ⟨q,v,w,hq,rfl,hQ⟩
 have hql:q ≤ 1000:=by rw [hms] at hq; omega
 have hn2:I.add (i6 q) (I.of .i64 1) = i6 (q + 1):=a3S (m:=1) (by omega)
 have e3:I.ltb (i6 q) (I.ofNat .i64 (a0K (a5Z (rdL zR r (I.nat (i6 i)))))) = decide (q < (a5Z (rdL zR r (I.nat (i6 i)))).length):=a2U (n:=q) (by omega) (by show (a5Z (rdL zR r (I.nat (i6 i)))).length < _; rw [hms]; omega)
 refine Wp.brn (fun hc2=>?_) (fun hc2=>?_)
 ·
  have hc2:I.ltb (i6 q) (I.ofNat .i64 (a0K (a5Z (rdL zR r (I.nat (i6 i)))))) = true:=hc2
  rw [e3] at hc2
  have hc2:=of_decide_eq_true hc2
  refine Wp.brnT (by show inB (i6 q) (a5Z (rdL zR r (I.nat (i6 i)))).length = true; exact a3F hc2 (by omega)) ?_
  obtain ⟨s1,r1,f1,f2,hR,f3⟩:=b9S hQ.i1 hQ.le (by omega) (f7K (rdL a0L (a5Z (rdL zR r (I.nat (i6 i)))) (I.nat (i6 q))))
  have hA:=g5U hQ (f7K (rdL a0L (a5Z (rdL zR r (I.nat (i6 i)))) (I.nat (i6 q)))) hR
  have hT:up (up (c2N l r i) 1 (e7H (rdL dR r i) q)) 1 (f7K (rdL a0L (a5Z (rdL zR r (I.nat (i6 i)))) (I.nat (i6 q)))).val = up (c2N l r i) 1 (e7H (rdL dR r i) (q + 1)):=by
   rw [hms,a3A (by omega),d7R (by rw [← hms]; exact hc2)]
   funext j
   unfold up
   split
   ·
    omega
   ·
    rfl
  rw [hT] at hA
  have hmu2:(a5Z (rdL zR r (I.nat (i6 i)))).length - (I.add (i6 q) (I.of .i64 1)).val.toNat < (a5Z (rdL zR r (I.nat (i6 i)))).length - (i6 q).val.toNat:=by rw [hn2,a0W (by omega),a0W (by omega)]; omega
  refine Wp.optF f1 (Wp.optF f2 (Wp.brn (fun ho=>?_) (fun ho=>Wp.optF f3 ?_)))
  ·
   have ho:w = true:=ho
   exact Wp.again ⟨q + 1,_,true,by omega,by rw [← hn2],hA.of (by rw [ho]; rfl)⟩ hmu2
  ·
   have ho:w = false:=ho
   exact Wp.again ⟨q + 1,_,_,by omega,by rw [← hn2],hA.of (by rw [ho]; rfl)⟩ hmu2
 ·
  have hc2:I.ltb (i6 q) (I.ofNat .i64 (a0K (a5Z (rdL zR r (I.nat (i6 i)))))) = false:=hc2
  rw [e3] at hc2
  have hq2:q = (a5Z (rdL dR r i)).length:=by have:=of_decide_eq_false hc2; rw [hms] at this hq; omega
  have hQ:RAcc v w (up (c2N l r i) 1 (f6V (rdL dR r i))) (1010 * i + 1000):=by rw [hq2] at hQ; exact hQ.mono (by omega)
  clear hms hc2 e3 hq
  have hrk:b9J (rdL zR r (I.nat (i6 i))) = b9J (rdL dR r i):=by rw [hrd]
  unfold g1F at hS
  refine Wp.done ?_
  refine Wp.brn (fun k6=>?_) (fun k6=>?_)
  ·
   have k6:(b9J (rdL zR r (I.nat (i6 i)))).val = 6:=iff_eqb.1 k6
   rw [hrk] at k6
   rw [if_neg (show ¬ (b9J (rdL dR r i)).val = 1 by omega),if_neg (show ¬ (b9J (rdL dR r i)).val = 2 by omega),if_pos k6] at hS
   obtain ⟨s1,r1,f1,f2,hR,f3⟩:=b9S hQ.i0 hQ.le (by omega) (c7M (rdL dS l (I.nat (i6 i))))
   have hA:=g5J hQ (c7M (rdL dS l (I.nat (i6 i)))) hR
   rw [← hls] at hS; rw [← hS] at hA
   refine Wp.optF f1 (Wp.optF f2 (Wp.brn (fun ho=>?_) (fun ho=>Wp.optF f3 ?_)))
   ·
    have ho:w = true:=ho
    exact hfin _ _ ((hA.mono (by omega)).of (by rw [ho]; rfl))
   ·
    have ho:w = false:=ho
    exact hfin _ _ ((hA.mono (by omega)).of (by rw [ho]; rfl))
  have k6:(b9J (rdL zR r (I.nat (i6 i)))).val ≠ 6:=niff_eqb.1 k6
  rw [hrk] at k6
  refine Wp.brn (fun k7=>?_) (fun k7=>?_)
  ·
   have k7:(b9J (rdL zR r (I.nat (i6 i)))).val = 7:=iff_eqb.1 k7
   rw [hrk] at k7
   rw [if_neg (show ¬ (b9J (rdL dR r i)).val = 1 by omega),if_neg (show ¬ (b9J (rdL dR r i)).val = 2 by omega),if_neg k6,if_pos k7] at hS
   obtain ⟨s1,r1,f1,f2,hR,f3⟩:=b9S hQ.i2 hQ.le (by omega) (c6Z (e1A (rdL dS l (I.nat (i6 i)))))
   have hA:=g6N hQ (c6Z (e1A (rdL dS l (I.nat (i6 i))))) hR
   rw [← hls] at hS; rw [← hS] at hA
   refine Wp.optF f1 (Wp.optF f2 (Wp.brn (fun ho=>?_) (fun ho=>Wp.optF f3 ?_)))
   ·
    have ho:w = true:=ho
    exact hfin _ _ ((hA.mono (by omega)).of (by rw [ho]; rfl))
   ·
    have ho:w = false:=ho
    exact hfin _ _ ((hA.mono (by omega)).of (by rw [ho]; rfl))
  have k7:(b9J (rdL zR r (I.nat (i6 i)))).val ≠ 7:=niff_eqb.1 k7
  rw [hrk] at k7
  refine Wp.brn (fun k1=>?_) (fun k1=>?_)
  ·
   have k1:(b9J (rdL zR r (I.nat (i6 i)))).val = 1:=iff_eqb.1 k1
   rw [hrk] at k1
   rw [if_pos k1] at hS
   rw [← hrd] at hQ hS
   obtain ⟨s3,r3,f3a,f3b,hR3,f3c⟩:=b9S hQ.i3 hQ.le (by omega) (c5Q (b9I (rdL zR r (I.nat (i6 i)))))
   have h3:=g7X hQ (c5Q (b9I (rdL zR r (I.nat (i6 i))))) hR3
   obtain ⟨s4,r4,f4a,f4b,hR4,f4c⟩:=b9S h3.i4 h3.le (by omega) (b9A (b9I (rdL zR r (I.nat (i6 i)))))
   have h4:=g5S h3 (b9A (b9I (rdL zR r (I.nat (i6 i))))) hR4
   obtain ⟨s5,r5,f5a,f5b,hR5,f5c⟩:=b9S h4.i5 h4.le (by omega) (e4L (b9I (rdL zR r (I.nat (i6 i)))))
   have h5:=g7H h4 (e4L (b9I (rdL zR r (I.nat (i6 i))))) hR5
   obtain ⟨s6,r6,f6a,f6b,hR6,f6c⟩:=b9S h5.i6 h5.le (by omega) (d2W (b9I (rdL zR r (I.nat (i6 i)))))
   have h6:=(g8I h5 (d2W (b9I (rdL zR r (I.nat (i6 i))))) hR6).mono (show 1010 * i + 1000 + 1 + 1 + 1 + 1 ≤ 1010 * (i + 1) by omega)
   rw [← hS] at h6
   refine Wp.optF f3a (Wp.optF f3b ?_)
   refine Wp.brn (fun ho=>?_) (fun ho=>?_)
   ·
    have ho:w = true:=ho
    refine Wp.optF f4a (Wp.optF f4b (Wp.optF f5a (Wp.optF f5b (Wp.optF f6a (Wp.optF f6b (hfin _ _ (h6.of ?_)))))))
    rw [ho]; rfl
   have ho:w = false:=ho
   rw [ho] at h6
   refine Wp.optF f3c (Wp.optF f4a (Wp.optF f4b ?_))
   generalize decide (up (c2N l r i) 1 (f6V (rdL zR r (I.nat (i6 i)))) 3 + (c5Q (b9I (rdL zR r (I.nat (i6 i))))).val < U.top) = d3 at *
   refine Wp.brn (fun o3=>?_) (fun o3=>?_)
   ·
    have o3:d3 = false:=g0R o3
    refine Wp.optF f5a (Wp.optF f5b (Wp.optF f6a (Wp.optF f6b (hfin _ _ (h6.of ?_)))))
    rw [o3]; rfl
   have o3:d3 = true:=g2L o3
   refine Wp.optF f4c (Wp.optF f5a (Wp.optF f5b ?_))
   generalize decide (up (up (c2N l r i) 1 (f6V (rdL zR r (I.nat (i6 i))))) 3 (c5Q (b9I (rdL zR r (I.nat (i6 i))))).val 4 + (b9A (b9I (rdL zR r (I.nat (i6 i))))).val < U.top) = d4 at *
   refine Wp.brn (fun o4=>?_) (fun o4=>?_)
   ·
    have o4:d4 = false:=g0R o4
    refine Wp.optF f6a (Wp.optF f6b (hfin _ _ (h6.of ?_)))
    rw [o3,o4]; rfl
   have o4:d4 = true:=g2L o4
   refine Wp.optF f5c (Wp.optF f6a (Wp.optF f6b ?_))
   generalize decide (up (up (up (c2N l r i) 1 (f6V (rdL zR r (I.nat (i6 i))))) 3 (c5Q (b9I (rdL zR r (I.nat (i6 i))))).val) 4 (b9A (b9I (rdL zR r (I.nat (i6 i))))).val 5 + (e4L (b9I (rdL zR r (I.nat (i6 i))))).val < U.top) = d5 at *
   refine Wp.brn (fun o5=>?_) (fun o5=>Wp.optF f6c (hfin _ _ (h6.of ?_)))
   ·
    have o5:d5 = false:=g0R o5
    refine hfin _ _ (h6.of ?_)
    rw [o3,o4,o5]; rfl
   ·
    have o5:d5 = true:=g2L o5
    rw [o3,o4,o5]; rfl
  have k1:(b9J (rdL zR r (I.nat (i6 i)))).val ≠ 1:=niff_eqb.1 k1
  rw [hrk] at k1
  refine Wp.brn (fun k2=>?_) (fun k2=>?_)
  ·
   have k2:(b9J (rdL zR r (I.nat (i6 i)))).val = 2:=iff_eqb.1 k2
   rw [hrk] at k2
   rw [if_neg k1,if_pos k2] at hS
   obtain ⟨s1,r1,f1,f2,hR,f3⟩:=b9S hQ.i7 hQ.le (by omega) (f0C (rdL zR r (I.nat (i6 i))))
   have hA:=g7N hQ (f0C (rdL zR r (I.nat (i6 i)))) hR
   rw [← hrd] at hS; rw [← hrd] at hA; rw [← hS] at hA
   refine Wp.optF f1 (Wp.optF f2 (Wp.brn (fun ho=>?_) (fun ho=>Wp.optF f3 ?_)))
   ·
    have ho:w = true:=ho
    exact hfin _ _ ((hA.mono (by omega)).of (by rw [ho]; rfl))
   ·
    have ho:w = false:=ho
    exact hfin _ _ ((hA.mono (by omega)).of (by rw [ho]; rfl))
  have k2:(b9J (rdL zR r (I.nat (i6 i)))).val ≠ 2:=niff_eqb.1 k2
  rw [hrk] at k2
  rw [if_neg k1,if_neg k2,if_neg k6,if_neg k7] at hS
  rw [← hS] at hQ
  exact hfin _ _ (hQ.mono (by omega))
end Sym

/- From what a row reads of the arguments to plain values, and from a contract to the row's answer. -/
namespace Sym
open Go
mutual
def f1N (P:Program):Ty→TypeId→Bool
 | .cons a b,id=>match P.underlying id with
  | some (.struct fs)=>(match fs.toList with
   | f :: r=>f1N P a f.type && f3T P b r
   | []=>false)
  | _=>false
 | .arr _ t,id=>match P.underlying id with
  | some (.array _ e)=>f1N P t e
  | _=>false
 | .sl t,id=>match P.underlying id with
  | some (.slice e)=>Nat.ble 1 t.sz && (Nat.ble 1 (P.bytesOf e) && f1N P t e)
  | _=>false
 | .opq,_=>false
 | _,_=>true
def f3T (P:Program):Ty→List Field→Bool
 | .cons a b,f :: r=>f1N P a f.type && f3T P b r
 | _,_=>true
end
theorem mapM_some {X Y:Type} {f:X→Option Y}:∀ {l:List X} {r:List Y},l.mapM f = some r→r.length = l.length∧∀ (i:Nat) (a:X),l[i]? = some a→∃ b,r[i]? = some b∧f a = some b
 | [],r,h=>by
  simp only [List.mapM_nil,Option.pure_def,Option.some.injEq] at h
  subst h
  exact ⟨rfl,fun i a h=>by simp at h⟩
 | a :: l,r,h=>by
  simp only [List.mapM_cons,Option.bind_eq_bind,Option.bind_eq_some_iff,Option.pure_def,Option.some.injEq] at h
  obtain ⟨b,hb,s,hs,rfl⟩:=h
  obtain ⟨h1,h2⟩:=mapM_some hs
  refine ⟨by simp [h1],fun i x hx=>?_⟩
  cases i with
  | zero =>
   simp only [List.getElem?_cons_zero,Option.some.injEq] at hx
   subst hx
   exact ⟨b,by simp,hb⟩
  | succ i =>
   simp only [List.getElem?_cons_succ] at hx
   obtain ⟨y,h3,h4⟩:=h2 i x hx
   exact ⟨y,by simp [h3],h4⟩
theorem e6Y {Y:Type} {f:Nat→Option Y} {n:Nat} {r:List Y} (h:(List.range n).mapM f = some r):r.length = n∧∀ i,i < n→∃ b,r[i]? = some b∧f i = some b:=by
 obtain ⟨h1,h2⟩:=mapM_some h
 refine ⟨by simpa using h1,fun i hi=>h2 i i (by simp [hi])⟩
theorem d0O {X:Type}:∀ (n:Nat) (R:Nat→X→Prop),(∀ i,i < n→∃ x,R i x)→∃ l:List X,l.length = n∧∀ i x,l[i]? = some x→R i x
 | 0,_,_=>⟨[],rfl,fun i x h=>by simp at h⟩
 | n + 1,R,h=>by
  obtain ⟨x,hx⟩:=h 0 (by omega)
  obtain ⟨l,h1,h2⟩:=d0O n (fun i x=>R (i + 1) x) fun i hi=>h (i + 1) (by omega)
  refine ⟨x :: l,by simp [h1],fun i y hy=>?_⟩
  cases i with
  | zero=>simp only [List.getElem?_cons_zero,Option.some.injEq] at hy; subst hy; exact hx
  | succ i=>exact h2 i y (by simpa using hy)
theorem d4F {X:Type} {E:X→List Value→Prop} {s:Nat}:∀ (n:Nat) (cs:List Value),cs.length = n * s→(∀ i,i < n→∃ x,E x ((cs.drop (i * s)).take s))→∃ x,b3L E n x cs
 | 0,cs,hl,_=>⟨(),by simp at hl; exact hl⟩
 | n + 1,cs,hl,h=>by
  obtain ⟨x,hx⟩:=h 0 (by omega)
  simp only [Nat.zero_mul,List.drop_zero] at hx
  obtain ⟨y,hy⟩:=d4F (E:=E) (s:=s) n (cs.drop s) (by rw [List.length_drop,hl,Nat.succ_mul]; omega) fun i hi=>by
   obtain ⟨z,hz⟩:=h (i + 1) (by omega)
   refine ⟨z,?_⟩
   rw [List.drop_drop,show s + i * s = (i + 1) * s by rw [Nat.succ_mul]; omega]
   exact hz
  exact ⟨(x,y),cs.take s,cs.drop s,(List.take_append_drop s cs).symm,hx,hy⟩
theorem c0M {H:Type} {P:Program} {e:TypeId}:∀ {ds:List (DataW H)} {i:Nat} {d:DataW H},ds[i]? = some d→∀ n ∈ d.weights P e,n ∈ DataW.weightsAll P e ds
 | d0 :: ds,0,d,hd,n,hn=>by
  simp only [List.getElem?_cons_zero,Option.some.injEq] at hd
  subst hd
  simp only [DataW.weightsAll,List.mem_append]
  exact .inl hn
 | d0 :: ds,i + 1,d,hd,n,hn=>by
  simp only [List.getElem?_cons_succ] at hd
  simp only [DataW.weightsAll,List.mem_append]
  exact .inr (c0M hd n hn)
def strOf (s:ByteArray):List (I .u8):=s.data.toList.map fun b=>I.of .u8 b.toNat
theorem d5F (s:ByteArray):bytesOf (strOf s) = s:=by
 unfold bytesOf strOf
 cases s with | mk a =>
 congr 1
 rw [List.map_map]
 have:((fun c:I .u8=>UInt8.ofNat c.val.toNat) ∘ fun b:UInt8=>I.of .u8 b.toNat) = id:=by
  funext b
  simp only [Function.comp,id,I.of,IntKind.wrap,IntKind.bits,IntKind.signed,Bool.false_and,Bool.false_eq_true,if_false]
  have:=b.toNat_lt
  rw [show ((b.toNat:Int) % 2 ^ 8) = (b.toNat:Int) by omega,Int.toNat_natCast]
  exact UInt8.ofNat_toNat
 rw [this,List.map_id,Array.toArray_toList]
section
variable {H:Type} {enc:TypeId × Value→H} {P:Program} {W:World} {base:Nat} {spare:Nat→Bool} {held:Bool}
abbrev GW (W:World):Nat→Prop:=fun r=>r < W.heap.size
theorem g1B {a:Addr} {v:Value} (h:W.cell? a = some v):a.spot = none∧a.block < W.heap.size:=by
 unfold World.cell? at h
 split at h
 ·
  rename_i c _ _ hc
  split at h
  ·
   cases h
  ·
   rename_i hs
   refine ⟨by simpa using hs,?_⟩
   rw [Array.getElem?_eq_some_iff] at hc
   exact hc.1
 ·
  cases h
theorem e8V {base:Nat} {a:Addr} {n:Nat} {ds:List Value} (h:W.cells? base a n = some ds):ds.length = n∧∀ j d,ds[j]? = some d→W.cell? (a.add j) = some d:=by
 unfold World.cells? at h
 split at h
 ·
  obtain ⟨h1,h2⟩:=e6Y h
  refine ⟨h1,fun j d hd=>?_⟩
  obtain ⟨b,h3,h4⟩:=h2 j (by rw [← h1]; exact (List.getElem?_eq_some_iff.1 hd).1)
  rw [h3] at hd
  rw [h4,hd]
 ·
  cases h
theorem addr_add {a:Addr} (hs:a.spot = none) (n:Nat):a.add n = ⟨a.block,a.off + n,none⟩:=by
 unfold Addr.add
 cases a
 simp only at hs
 subst hs
 split
 ·
  rename_i h; subst h; rfl
 ·
  rfl
theorem e1L:∀ (t:Ty),
  (∀ fuel id cs (d:DataW H) (p:List MemPlace),TOk P t id→f1N P t id = true→DataW.trod enc P W base spare held fuel id cs = some (d,p)→(∀ n ∈ d.weights P id,n ≤ reachBytes)→∃ x,Enc W (GW W) t x cs) ∧
  (∀ fuel (r:List Field) (o:Nat) (cs:List Value) (xs:List (DataW H × List MemPlace)),FOk P t r o→f3T P t r = true→xs.length = r.length →
   (∀ (i:Nat) (f:Field),r[i]? = some f→DataW.trod enc P W base spare held fuel f.type ((cs.drop f.offset).take (P.cellsOf f.type)) = xs[i]?) →
   (∀ n ∈ DataW.weightsEach P (r.map (·.type)) (xs.map (·.1)),n ≤ reachBytes)→cs.length = o + t.sz→∃ x,Enc W (GW W) t x (cs.drop o)):=by
 intro t
 have nofld:∀ t,(∀ a b,t ≠ .cons a b)→t ≠ .nil→∀ (r:List Field) (o:Nat),¬ FOk P t r o:=by
  intro t h1 h2 r o h
  cases t <;> first | exact h1 _ _ rfl | exact h2 rfl | (cases r <;> exact h.elim)
 induction t with
 | int k =>
  refine ⟨fun fuel id cs d p hT _ h _=>?_,fun fuel r o cs xs h=>(nofld _ (by simp) (by simp) _ _ h).elim⟩
  obtain ⟨n,hcs,_,hw⟩:=DataW.trod_int hT.2 h
  simp only [Lit.wf,Bool.and_eq_true,decide_eq_true_eq] at hw
  exact ⟨(⟨n,a7J hw⟩:I k),hcs⟩
 | bool =>
  refine ⟨fun fuel id cs d p hT _ h _=>?_,fun fuel r o cs xs h=>(nofld _ (by simp) (by simp) _ _ h).elim⟩
  obtain ⟨n,hcs,_⟩:=DataW.trod_bool hT.2 h
  exact ⟨n,hcs⟩
 | str =>
  refine ⟨fun fuel id cs d p hT _ h hw=>?_,fun fuel r o cs xs h=>(nofld _ (by simp) (by simp) _ _ h).elim⟩
  obtain ⟨s,hcs,hx,_⟩:=DataW.trod_string hT.2 h
  simp only [Prod.mk.injEq] at hx
  obtain ⟨rfl,rfl⟩:=hx
  refine ⟨strOf s,?_,?_⟩
  ·
   rw [d5F]; exact hcs
  ·
   have:=hw s.data.toList.length (by simp [DataW.weights])
   have h2:(strOf s).length = s.data.toList.length:=List.length_map _
   show (strOf s).length ≤ LIM
   rw [h2]
   simp only [reachBytes,LIM] at *
   omega
 | nil =>
  refine ⟨fun fuel id cs d p hT _ h hw=>?_,fun fuel r o cs xs h _ _ _ _ hl=>⟨(),?_⟩⟩
  ·
   obtain ⟨xs,n,_,_,hl,_⟩:=DataW.trod_struct hT.2 h
   rw [hT.1] at hl
   exact ⟨(),List.eq_nil_of_length_eq_zero hl⟩
  ·
   show cs.drop o = []
   simp only [Ty.sz,Nat.add_zero] at hl
   rw [List.drop_eq_nil_iff]; omega
 | cons a b iha ihb =>
  refine ⟨fun fuel id cs d p hT hA h hw=>?_,fun fuel r o cs xs hF hA hlen hf hw hl=>?_⟩
  ·
   obtain ⟨hsz,fs,f,r,hu,hfs,hf0,hTa,hFb⟩:=hT
   obtain ⟨xs,n,_,hx,hl,hlen,hfx⟩:=DataW.trod_struct hu h
   simp only [Prod.mk.injEq] at hx
   obtain ⟨rfl,rfl⟩:=hx
   simp only [f1N,hu,hfs,Bool.and_eq_true] at hA
   have hfl:∀ (i:Nat) (g:Field),(f :: r)[i]? = some g→DataW.trod enc P W base spare held n g.type ((cs.drop g.offset).take (P.cellsOf g.type)) = xs[i]?:=by
    intro i g hg
    refine hfx i g ?_
    rw [← Array.getElem?_toList,hfs]
    exact hg
   have hlen':xs.length = r.length + 1:=by rw [hlen,← Array.length_toList,hfs]; rfl
   match xs,hlen' with
   | y :: ys,hlen' =>
    simp only [DataW.weights,hu,hfs,List.map_cons,DataW.weightsEach,List.mem_append] at hw
    have h0:=hfl 0 f rfl
    simp only [List.getElem?_cons_zero] at h0
    rw [hf0,hTa.size,List.drop_zero] at h0
    obtain ⟨x,hx⟩:=iha.1 n f.type _ y.1 y.2 hTa hA.1 h0 (fun m hm=>hw m (.inl hm))
    obtain ⟨z,hz⟩:=ihb.2 n r a.sz cs ys hFb hA.2 (by simpa using hlen') (fun i g hg=>by simpa using hfl (i + 1) g hg) (fun m hm=>hw m (.inr hm)) (by rw [hl,hsz])
    exact ⟨(x,z),_,_,(List.take_append_drop a.sz cs).symm,hx,hz⟩
  ·
   cases r with
   | nil=>exact hF.elim
   | cons f r =>
    obtain ⟨hf0,hTa,hFb⟩:=hF
    simp only [f3T,Bool.and_eq_true] at hA
    match xs,hlen with
    | y :: ys,hlen =>
     simp only [List.map_cons,DataW.weightsEach,List.mem_append] at hw
     have h0:=hf 0 f rfl
     simp only [List.getElem?_cons_zero] at h0
     rw [hf0,hTa.size] at h0
     simp only [Ty.sz] at hl
     obtain ⟨x,hx⟩:=iha.1 fuel f.type _ y.1 y.2 hTa hA.1 h0 (fun m hm=>hw m (.inl hm))
     obtain ⟨z,hz⟩:=ihb.2 fuel r (o + a.sz) cs ys hFb hA.2 (by simpa using hlen) (fun i g hg=>by simpa using hf (i + 1) g hg) (fun m hm=>hw m (.inr hm)) (by omega)
     refine ⟨(x,z),_,_,(List.take_append_drop a.sz (cs.drop o)).symm,hx,?_⟩
     rw [List.drop_drop]
     exact hz
 | arr n t ih =>
  refine ⟨fun fuel id cs d p hT hA h hw=>?_,fun fuel r o cs xs h=>(nofld _ (by simp) (by simp) _ _ h).elim⟩
  obtain ⟨hsz,e,hu,hTe⟩:=hT
  obtain ⟨xs,m,_,hx,hl,hlen,hfx⟩:=DataW.trod_array hu h
  simp only [Prod.mk.injEq] at hx
  obtain ⟨rfl,rfl⟩:=hx
  simp only [f1N,hu] at hA
  simp only [DataW.weights,hu] at hw
  refine d4F n cs (by rw [hl,hsz]) fun i hi=>?_
  have h0:=hfx i hi
  rw [hTe.size,List.getElem?_eq_getElem (by omega)] at h0
  refine ih.1 m e _ (xs[i]'(by omega)).1 (xs[i]'(by omega)).2 hTe hA h0 fun k hk=>hw k (c0M (i:=i) ?_ k hk)
  rw [List.getElem?_map,List.getElem?_eq_getElem (by omega)]; rfl
 | sl t ih =>
  refine ⟨fun fuel id cs d p hT hA h hw=>?_,fun fuel r o cs xs h=>(nofld _ (by simp) (by simp) _ _ h).elim⟩
  obtain ⟨hsz,e,hu,hTe⟩:=hT
  simp only [f1N,hu,Bool.and_eq_true] at hA
  obtain ⟨hA1,hA2,hA⟩:=hA
  have hA1:=Nat.le_of_ble_eq_true hA1
  have hA2:=Nat.le_of_ble_eq_true hA2
  rcases DataW.trod_slice hu h with ⟨rfl,_⟩ | ⟨a,len,cap,elems,rest,m,_,rfl,hx,_,hlc,_,hel,hfx,_,_⟩
  ·
   refine ⟨([]:List t.D),none,0,rfl,Nat.le_refl _,by simp,.inl rfl⟩
  ·
   simp only [Prod.mk.injEq] at hx
   obtain ⟨rfl,rfl⟩:=hx
   simp only [DataW.weights,hu,List.mem_cons,List.mem_append] at hw
   have hb:=hw _ (.inl rfl)
   have hlim:len ≤ LIM:=by
    have h1:len ≤ (elems.length + rest.length) * P.bytesOf e:=by
     rw [← hel]
     refine Nat.le_trans ?_ (Nat.mul_le_mul_left _ hA2)
     omega
    simp only [List.length_map] at hb
    simp only [reachBytes,LIM] at *
    omega
   have key:∀ i,i < len→a.spot = none∧a.block < W.heap.size∧∃ x ds,Enc W (GW W) t x ds∧c0L W a.block (a.off + i * t.sz) ds:=by
    have one:∀ i,i < len→∃ (ds:List Value) (x:t.D),ds.length = t.sz∧Enc W (GW W) t x ds∧∀ j d,ds[j]? = some d→W.cell? ((a.add (i * t.sz)).add j) = some d:=by
     intro i hi
     have h0:=hfx i hi
     rw [List.getElem?_eq_getElem (by omega)] at h0
     simp only [Option.bind_eq_some_iff] at h0
     obtain ⟨ds,h1,h2⟩:=h0
     obtain ⟨h3,h4⟩:=e8V h1
     rw [hTe.size] at h3 h4
     obtain ⟨x,hx⟩:=ih.1 m e ds (elems[i]'(by omega)).1 (elems[i]'(by omega)).2 hTe hA h2 fun k hk=>hw k (.inr (.inl (c0M (i:=i) (by rw [List.getElem?_map,List.getElem?_eq_getElem (by omega)]; rfl) k hk)))
     exact ⟨ds,x,h3,hx,h4⟩
    intro i hi
    obtain ⟨ds,x,h1,h2,h3⟩:=one i hi
    obtain ⟨ds0,_,g1,_,g3⟩:=one 0 (by omega)
    have c0:=g3 0 (ds0[0]'(by omega)) (List.getElem?_eq_getElem _)
    simp only [Nat.zero_mul] at c0
    have e0:(a.add 0).add 0 = a:=by simp [Addr.add]
    rw [e0] at c0
    obtain ⟨hs,hlt⟩:=g1B c0
    refine ⟨hs,hlt,x,ds,h2,fun j d hd=>?_⟩
    have:=h3 j d hd
    rw [addr_add hs,addr_add rfl] at this
    exact this
   obtain ⟨l,hl1,hl2⟩:=d0O len (fun i x=>∃ ds,Enc W (GW W) t x ds∧c0L W a.block (a.off + i * t.sz) ds) fun i hi=>(key i hi).2.2
   refine ⟨l,some a,cap,?_,?_,?_,?_⟩
   ·
    show [Value.slice (some a) len cap] = [Value.slice (some a) l.length cap]; rw [hl1]
   ·
    show l.length ≤ cap; omega
   ·
    show l.length ≤ LIM; omega
   ·
    by_cases h0:len = 0
    ·
     left; show l = []; exact List.eq_nil_of_length_eq_zero (by omega)
    ·
     obtain ⟨h1,h2,_⟩:=key 0 (by omega)
     exact .inr ⟨a,rfl,h1,h2,hl2⟩
 | opq=>exact ⟨fun fuel id cs d p hT hA=>by simp [f1N] at hA,fun fuel r o cs xs h=>(nofld _ (by simp) (by simp) _ _ h).elim⟩
end
theorem f0J {P:Program} {W:World} {rr:Reach} {base:Nat} {id:TypeId} {v:Value} {t:Ty} (hT:TOk P t id) (hne:t ≠ .opq) (h:Value.okWide P W rr base id v):v = mkV t.isAgg v.cells.toList:=by
 have agg:(∃ cs,v = .agg cs)→v = mkV true v.cells.toList:=by
  rintro ⟨cs,rfl⟩
  show Value.agg cs = .agg _
  congr 1
 cases t with
 | int k=>obtain ⟨n,rfl⟩:=Go.WideShapes.okWide_int hT.2 h; rfl
 | bool=>obtain ⟨n,rfl⟩:=Go.WideShapes.okWide_bool hT.2 h; rfl
 | str=>obtain ⟨n,rfl⟩:=Go.WideShapes.okWide_string hT.2 h; rfl
 | sl t=>obtain ⟨_,e,hu,_⟩:=hT; obtain ⟨a,l,c,rfl⟩:=Go.WideShapes.okWide_slice hu h; rfl
 | opq=>exact (hne rfl).elim
 | nil=>obtain ⟨_,hu⟩:=hT; simp only [Value.okWide,hu] at h; exact agg ⟨_,h.choose_spec.1⟩
 | cons a b=>obtain ⟨_,fs,f,r,hu,_⟩:=hT; simp only [Value.okWide,hu] at h; exact agg ⟨_,h.choose_spec.1⟩
 | arr n t=>obtain ⟨_,e,hu,_⟩:=hT; simp only [Value.okWide,hu] at h; exact agg ⟨_,h.choose_spec.1⟩
def Arr.all {X:Type} (p:X→Prop):(n:Nat)→Arr X n→Prop
 | 0,_=>True
 | n + 1,x=>p x.1∧Arr.all p n x.2
def Ty.bd:(t:Ty)→t.D→Prop
 | .str,x=>(show List (I .u8) from x).length ≤ LIM
 | .cons a b,x=>a.bd x.1∧b.bd x.2
 | .arr n t,x=>Arr.all t.bd n x
 | .sl t,x=>(show List t.D from x).length ≤ LIM∧∀ (i:Nat) (y:t.D),(show List t.D from x)[i]? = some y→t.bd y
 | .int _,_=>True
 | .bool,_=>True
 | .nil,_=>True
 | .opq,_=>True
theorem d4G {X:Type} {E:X→List Value→Prop} {p:X→Prop} (h:∀ x cs,E x cs→p x):∀ (n:Nat) (x:Arr X n) (cs:List Value),b3L E n x cs→Arr.all p n x
 | 0,_,_,_=>trivial
 | n + 1,x,cs,he=>by
  obtain ⟨c1,c2,_,h1,h2⟩:=he
  exact ⟨h _ _ h1,d4G h n x.2 c2 h2⟩
theorem g4P {W:World} {G:Nat→Prop}:∀ (t:Ty) (x:t.D) (cs:List Value),Enc W G t x cs→t.bd x:=by
 intro t
 induction t with
 | int k=>intro x cs _; trivial
 | bool=>intro x cs _; trivial
 | nil=>intro x cs _; trivial
 | opq=>intro x cs _; trivial
 | str=>intro x cs h; exact h.2
 | cons a b iha ihb=>intro x cs h; obtain ⟨c1,c2,_,h1,h2⟩:=h; exact ⟨iha _ _ h1,ihb _ _ h2⟩
 | arr n t ih=>intro x cs h; exact d4G (fun x cs=>ih x cs) n x cs h
 | sl t ih =>
  intro x cs h
  obtain ⟨a,c,_,_,hl,hx⟩:=h
  refine ⟨hl,fun i y hy=>?_⟩
  rcases hx with hx | ⟨ad,_,_,_,hr⟩
  ·
   rw [hx] at hy; simp at hy
  ·
   obtain ⟨ds,h1,_⟩:=hr i y hy
   exact ih y ds h1
def f9V:(ts:List Ty)→ShD (ts.map .pl)→Prop
 | [],_=>True
 | t :: ts,x=>t.bd x.1∧f9V ts x.2
def e6J (P:Program):List Ty→List TypeId→Bool
 | [],[]=>true
 | t :: ts,id :: ids=>e1P P t id && (f1N P t id && (P.readableRec id && (Nat.blt id P.types.size && e6J P ts ids)))
 | _,_=>false
section
variable {H:Type} {enc:TypeId × Value→H} {P:Program} {W:World}
def cx0 (W:World):Cx:=⟨W,GW W,fun _=>.bool false,[]⟩
theorem e4S {rr:Reach} {base:Nat}:∀ (ts:List Ty) (ids:List TypeId) (vs:List Value) (ds:List (DataW H)) (ps:List MemPlace),e6J P ts ids = true →
  DataW.TrodAll enc P W 0 (fun _=>true) true ids vs ds ps→(∀ (j:Nat) t v,ids[j]? = some t→vs[j]? = some v→Value.okWide P W rr base t v) →
  (∀ n ∈ DataW.weightsEach P ids ds,n ≤ reachBytes)→ds.length = ts.length∧∃ x:ShD (ts.map .pl),f9V ts x∧All2 (VOk (cx0 W)) (a1Z (ts.map .pl) x) vs
 | [],[],vs,ds,ps,_,hA,_,_=>by
  obtain ⟨rfl,rfl,rfl⟩:=Go.ChangeShapes.trodAll_nil hA
  exact ⟨rfl,(),trivial,trivial⟩
 | [],_ :: _,_,_,_,h,_,_,_=>by cases h
 | _ :: _,[],_,_,_,h,_,_,_=>by cases h
 | t :: ts,id :: ids,vs,ds,ps,h,hA,hv,hw=>by
  simp only [e6J,Bool.and_eq_true] at h
  obtain ⟨h1,h2,_,_,h5⟩:=h
  obtain ⟨v,vs',d,ds',p,q,rfl,rfl,rfl,⟨fuel,hd⟩,hrest⟩:=Go.ChangeShapes.trodAll_cons hA
  simp only [DataW.weightsEach,List.mem_append] at hw
  have hT:=(e3G P t).1 id h1
  obtain ⟨x,hx⟩:=(e1L t).1 fuel id _ d p hT h2 hd fun n hn=>hw n (.inl hn)
  obtain ⟨hl,y,hbd,hy⟩:=e4S ts ids vs' ds' q h5 hrest (fun j t v ht hv'=>hv (j + 1) t v (by simpa using ht) (by simpa using hv')) fun n hn=>hw n (.inr hn)
  refine ⟨by simp [hl],(x,y),⟨g4P t x _ hx,hbd⟩,?_,hy⟩
  refine ⟨_,hx,?_⟩
  exact f0J hT (by rintro rfl; simp [f1N] at h2) (hv 0 id v rfl rfl)
theorem c6U (hl:laidOutB P = true) {W':World} (hb:Go.RowKit.Below W.heap.size W W'):∀ (ts:List Ty) (ids:List TypeId) (vs:List Value) (ds:List (DataW H)) (ps:List MemPlace),e6J P ts ids = true →
  DataW.TrodAll enc P W 0 (fun _=>true) true ids vs ds ps→(∀ x ∈ ps,x.block < W.heap.size)→DataW.TrodAll enc P W' 0 (fun b=>decide (b < W.heap.size)) true ids vs ds ps
 | [],[],vs,ds,ps,_,hA,_=>by
  obtain ⟨rfl,rfl,rfl⟩:=Go.ChangeShapes.trodAll_nil hA
  exact Go.ChangeShapes.trodAll_mk0
 | [],_ :: _,_,_,_,h,_,_=>by cases h
 | _ :: _,[],_,_,_,h,_,_=>by cases h
 | t :: ts,id :: ids,vs,ds,ps,h,hA,hlt=>by
  simp only [e6J,Bool.and_eq_true] at h
  obtain ⟨_,_,h3,h4,h5⟩:=h
  obtain ⟨v,vs',d,ds',p,q,rfl,rfl,rfl,hd,hrest⟩:=Go.ChangeShapes.trodAll_cons hA
  refine ⟨p,q,Go.RowKit.Below.trod hl h3 (Nat.lt_of_succ_le (Nat.le_of_ble_eq_true h4)) hd hb fun x hx=>hlt x (by simp [hx]),?_,rfl⟩
  exact c6U hl hb ts ids vs' ds' q h5 hrest fun x hx=>hlt x (by simp [hx])
theorem g3C:Start (cx0 W):=by
 have hu:∀ b,a0M (cx0 W).H b = .unborn:=fun b=>by simp [cx0,a0M]
 refine ⟨fun b=>?_,fun b b' r h=>?_,fun r hr=>⟨hr,fun b h=>?_⟩⟩
 ·
  unfold BlkOk; rw [hu]; trivial
 ·
  rw [hu] at h; cases h
 ·
  rw [hu] at h; cases h
theorem e5E {C:Checked} {f:FuncId} {fn:Func} {s:ChangeSpec} {ts:List Ty} {bt:TypeId} {F:(⟨ts.map .pl,[]⟩:Tm).D→Option (⟨[.pl .bool],[]⟩:Tm).D}
  (hl : laidOutB C.prog = true) (hfn : C.prog.funcs[f]? = some fn) (hbody : fn.body.isSome = true) (hname : (fn.name == "runtime.NumGoroutine") = false)
  (hargs:e6J C.prog ts fn.params.toList = true) (hres:fn.resultTypes = #[bt]) (hbt:C.prog.underlying bt = some .bool) (hvars:s.vars = [])
  (hs:∀ ds:List (DataW H),ds.length = ts.length→s.fn H ds = { results:=[.lit (.bool true)],args:=ds })
  (hcon:a1P C.prog f ⟨⟨ts.map .pl,[]⟩,⟨[.pl .bool],[]⟩,F⟩) (hF:∀ x,f9V ts x→F (x,()) = some ((true,()),()))
  (base:Nat) (args:Array Value) (ds gs:List (DataW H)) (before:List MemPlace)
  (hval:∀ (j:Nat) t v,fn.params[j]? = some t→args[j]? = some v→Value.okWide C.prog W .any base t v)
  (hW:DataW.Whole enc C.prog fn.params.toList s.vars false W args.toList ds gs before)
  (hsz:(DataW.weightsEach C.prog (fn.params.toList ++ s.plain.varTypes C.prog) (ds ++ gs)).all (· ≤ reachBytes) = true) :
  Calls C.prog f args W fun e W'=>∃ v,e = .returned v∧s.post enc C.prog fn false true false false W args v W':=by
 have hW':=hW
 obtain ⟨p,q,hA,hV,rfl,hfz,hnd⟩:=hW
 rw [hvars] at hV
 obtain ⟨rfl,rfl⟩:=Go.ChangeShapes.trodVars_none hV
 have hvt:s.plain.varTypes C.prog = []:=by simp [DataSpec.varTypes,ChangeSpec.plain,hvars]
 rw [hvt,List.append_nil,List.append_nil,List.all_eq_true] at hsz
 obtain ⟨hlen,x,hbd,hx⟩:=e4S (P:=C.prog) ts fn.params.toList args.toList ds p hargs hA
  (fun j t v h1 h2=>hval j t v (by rw [← Array.getElem?_toList]; exact h1) (by rw [← Array.getElem?_toList]; exact h2)) fun n hn=>of_decide_eq_true (hsz n hn)
 have key:=hcon (x,()) ((true,()),()) (hF x hbd) (cx0 W) args.toList g3C rfl hx
 rw [Array.toArray_toList] at key
 obtain ⟨b,hb⟩:=Option.isSome_iff_exists.1 hbody
 have hent:=b6K (args:=args) (w:=W) hfn hb hname
 rcases key with ⟨v,w',h1,_⟩ | ⟨_,h⟩
 ·
  change (callFunc f args).run C.prog W = _ at h1
  rw [hent] at h1
  cases h1
 ·
  refine h.mono fun e w' hr=>?_
  obtain ⟨v,he,c',hw,hH,hv,hM,_⟩:=hr
  subst he hw
  refine ⟨v,rfl,?_⟩
  have hown:∀ r,¬ c6Q (cx0 W) r:=by
   rintro r ⟨b,hb,_⟩
   simp [cx0,a0M,live] at hb
  have bel:Go.RowKit.Below W.heap.size W c'.w:=⟨hM.os,hM.tape,hM.output,hM.size,fun k hk=>hM.frame k hk (hown k)⟩
  obtain ⟨cs,hcs,hv⟩:=hv
  have hcs:cs = [.bool true]:=hcs
  subst hcs
  have hv:v = .bool true:=hv
  subst hv
  have hfnH:=hs ds hlen
  refine ⟨ds,[],_,[],p,[],hW',?_,?_,?_,bel.frame _,fun h=>by cases h⟩
  ·
   rw [List.append_nil,hfnH,hres]
   exact Go.ChangeShapes.trodAll_mk1 (Go.RowKit.shut_bool hbt _)
  ·
   rw [List.append_nil,hfnH]
   refine c6U hl bel ts _ _ _ _ hargs hA fun x hx=>?_
   exact DataW.TrodAll.lt hA x hx
  ·
   rw [List.append_nil,hfnH,hvars]
   rfl
end
end Sym

/- Audit: Total agrees with the reference. -/
namespace Sym
open Go
theorem f5H {X:Type} {l:List X} {i:Nat} {x y:X} (h:y ∈ c0N l i x):y ∈ l ∨ y = x:=by
 rw [c0N,a7G] at h
 rcases List.mem_or_eq_of_mem_set h with h | h
 ·
  exact .inl h
 ·
  exact .inr h
theorem g4S (x:d4N):Ty.eqb a1T x x = true:=eqb_self' (t:=a1T) rfl x
theorem f5W {k:I .i64} (h:0 ≤ k.val):k = i6 k.val.toNat:=by
 have:=b3S k
 apply I.ext'
 rw [a0W (by omega)]
 omega
theorem e0G (a:List b7X) (b:List Rcp) (c:List (I .i64)) (d:I .i64) (e:U) (f:I .i64) (ha:a.length ≤ LIM) (hb:b.length ≤ LIM) (hc:c.length ≤ LIM) (hm:∀ x ∈ b,(a5Z x).length ≤ LIM) :
  a7Q K0 ((a,(b,(c,(d,(e,(f,())))))),()) = some ((true,()),()):=by
 refine Wp.out (T:=fun o=>o = some ((true,()),())) ?_
 unfold a7Q
 have hL:LIM = 140737488355328:=rfl
 refine Wp.jn (fun x=>(a.length ≤ 20∧b.length ≤ 20∧c.length ≤ 20)∧x = ((a,(b,(c,(d,(f,()))))),(e,()))) ?_ ?_
 ·
  rintro x ⟨⟨ha,hb,hc⟩,rfl⟩
  refine Wp.iter (fun x=>∃ i,i ≤ b.length∧x = ((a,(b,(c,(d,(f,(i6 i,())))))),(e,()))∧∀ k,k < i→(a5Z (rdL dR b k)).length ≤ 10) (fun x=>b.length - x.1.2.2.2.2.2.1.val.toNat) ?_ ⟨0,by omega,rfl,fun k hk=>by omega⟩ (by rw [a7L]; show b.length - 0 < _; omega)
  rintro x ⟨i,hi,rfl,hk⟩
  have hn:I.add (i6 i) (I.of .i64 1) = i6 (i + 1):=a3S (m:=1) (by omega)
  have e1:I.ltb (i6 i) (I.ofNat .i64 (a0K b)) = decide (i < b.length):=a2U (n:=i) (m:=b.length) (by omega) (by omega)
  refine Wp.brn (fun h=>?_) (fun h=>?_)
  ·
   have h:I.ltb (i6 i) (I.ofNat .i64 (a0K b)) = true:=h
   rw [e1] at h
   have h:=of_decide_eq_true h
   have hrd:rdL zR b (I.nat (i6 i)) = rdL dR b i:=by rw [a3A (by omega)]; rfl
   have hml:=hm (rdL dR b i) (b8U _ _ _ h)
   have e2:I.ltb (I.of .i64 10) (I.ofNat .i64 (a0K (a5Z (rdL zR b (I.nat (i6 i)))))) = decide (10 < (a5Z (rdL zR b (I.nat (i6 i)))).length):=a2U (n:=10) (by omega) (by show (a5Z (rdL zR b (I.nat (i6 i)))).length < _; rw [hrd]; omega)
   refine Wp.brnT (by show inB (i6 i) b.length = true; exact a3F h (by omega)) ?_
   refine Wp.brn (fun g=>Wp.optF e0F (Wp.done rfl)) (fun g=>?_)
   have g:I.ltb (I.of .i64 10) (I.ofNat .i64 (a0K (a5Z (rdL zR b (I.nat (i6 i)))))) = false:=g
   rw [e2,hrd] at g
   have g:=of_decide_eq_false g
   refine Wp.again ⟨i + 1,by omega,by show ((a,(b,(c,(d,(f,(I.add (i6 i) (I.of .i64 1),())))))),_) = _; rw [hn],fun k hk'=>?_⟩ (by show b.length - (I.add (i6 i) (I.of .i64 1)).val.toNat < b.length - (i6 i).val.toNat; rw [hn,a0W (by omega),a0W (by omega)]; omega)
   rcases (by omega:k < i ∨ k = i) with h3 | rfl
   ·
    exact hk k h3
   ·
    omega
  have h:I.ltb (i6 i) (I.ofNat .i64 (a0K b)) = false:=h
  rw [e1] at h
  have h:i = b.length:=by have:=of_decide_eq_false h; omega
  subst h
  have hmb:∀ x ∈ b,(a5Z x).length ≤ 1000:=by
   intro x hx
   obtain ⟨k,hk',rfl⟩:=c2F dR hx
   have:=hk k hk'
   omega
  refine Wp.done ?_
  obtain ⟨l,p,hs,hR⟩:=g4M c false (by omega)
  refine Wp.optF hs ?_
  have hpl:p.2.length = 8 + c.length:=by rw [hR.run,d5J,hR.len]
  have hmod:0 < (I.ofNat .i64 (a0K p.2)).val:=by show 0 < (i6 p.2.length).val; rw [a0W (by omega)]; omega
  obtain ⟨k,hk2,k0,k1⟩:=f1M d (I.ofNat .i64 (a0K p.2)) hmod
  have k1:k.val < (i6 p.2.length).val:=k1
  rw [a0W (by omega)] at k1
  refine Wp.optF hk2 ?_
  have ekk:=f5W k0
  have hin:inB k p.2.length = true:=by rw [ekk]; exact a3F (by omega) (by omega)
  have hkm:=b8U zR p.2 (I.nat k) (by show k.val.toNat < _; omega)
  have hkl:=hR.msgs _ hkm
  refine Wp.jn (fun x=>∃ t:List Rcp,t.length ≤ 1073741824∧(∀ x ∈ t,(a5Z x).length ≤ 1000)∧x = ((a,(b,(t,()))),(l,()))) ?_ ?_
  ·
   rintro x ⟨t,ht,htm,rfl⟩
   have hll:l.length ≤ 1000:=by rw [hR.len]; omega
   refine Wp.optF (d7I a b (by omega) (by omega) hmb) (Wp.optF (d7X a b (by omega) (by omega) hmb) (Wp.optF (d7I l t hll ht htm) (Wp.optF (d7X l t hll ht htm) ?_)))
   exact Wp.brnT (g4S _) (Wp.brnT (iff_eqb.2 rfl) (Wp.brnT (g4S _) (Wp.brnT (iff_eqb.2 rfl) (Wp.optF e0F rfl))))
  ·
   intro j hj
   have hset:∀ (z:Rcp),(a5Z z).length ≤ 1000→Wp (fun o=>o = some ((true,()),())) (j ((a,(b,(c0N p.2 (I.nat k) z,()))),(l,()))):=by
    intro z hz
    refine hj _ ⟨_,by rw [d6F]; omega,fun x hx=>?_,rfl⟩
    rcases f5H hx with h | h
    ·
     have:=hR.msgs x h; omega
    ·
     rw [h]; exact hz
   have hz0:(a5Z (rdL zR p.2 (I.nat k))).length ≤ 1000:=by omega
   obtain ⟨q,hq,_,_⟩:=f1M f (I.of .i64 6) (by decide)
   refine Wp.optF hq ?_
   refine Wp.brn (fun _=>Wp.brnT hin (Wp.brnT hin (hset _ hz0))) (fun _=>?_)
   refine Wp.brn (fun _=>Wp.brnT hin (hset _ hz0)) (fun _=>?_)
   refine Wp.brn (fun _=>Wp.brnT hin (hset _ hz0)) (fun _=>?_)
   refine Wp.brn (fun _=>Wp.brnT hin (hset _ hz0)) (fun _=>?_)
   refine Wp.brn (fun _=>Wp.brnT (by show inB' k p.2.length = true; rw [ekk]; exact i6_inB' (by omega) (by omega)) (hj _ ⟨_,?_,fun x hx=>?_,rfl⟩)) (fun _=>hj _ ⟨p.2,by omega,fun x hx=>by have:=hR.msgs x hx; omega,rfl⟩)
   ·
    show (a4I p.2 0 (I.nat k)).length ≤ _
    rw [b6F]; omega
   ·
    have hx:x ∈ a4I p.2 0 (I.nat k):=hx
    rw [c1E] at hx
    have:=hR.msgs x (List.mem_of_mem_take hx)
    omega
 ·
  intro j hj
  refine Wp.jn (fun x=>∃ g:Bool,(g = false→a.length ≤ 20∧b.length ≤ 20∧c.length ≤ 20)∧x = ((a,(b,(c,(d,(f,(g,())))))),(e,()))) ?_ ?_
  ·
   rintro x ⟨g,hg,rfl⟩
   refine Wp.brn (fun _=>Wp.optF e0F rfl) (fun h=>hj _ ⟨hg h,rfl⟩)
  ·
   intro j2 hj2
   refine Wp.brn (fun _=>hj2 _ ⟨true,(fun h=>by cases h),rfl⟩) (fun h1=>?_)
   refine Wp.brn (fun _=>hj2 _ ⟨true,(fun h=>by cases h),rfl⟩) (fun h2=>?_)
   refine hj2 _ ⟨_,fun h3=>⟨e1S (n:=20) ha (by omega) h1,e1S (n:=20) hb (by omega) h2,e1S (n:=20) hc (by omega) h3⟩,rfl⟩
theorem f9G {b:List Rcp} (h:∀ (i:Nat) (y:Rcp),b[i]? = some y→Ty.bd a1F y) {y:Rcp} (hy:y ∈ b):(a5Z y).length ≤ LIM:=by
 obtain ⟨i,hi⟩:=List.mem_iff_getElem?.1 hy
 exact (h i y hi).2.2.2.2.2.2.2.2.1.1
end Sym
