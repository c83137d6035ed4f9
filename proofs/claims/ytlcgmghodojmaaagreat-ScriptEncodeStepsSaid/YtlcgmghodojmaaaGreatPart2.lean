/- The laws of single operations, tenth part: slice literals and append. -/
import Derived.Lib.AppendZeros
import Derived.Laws.CopyRow
import Derived.Laws.BytesString
import Derived.Laws.IdiomStrings
import Derived.Test.YtlcgmghodojmaaaGreatPart1
namespace Sym
open Go
section
variable {P:Program} {base:World} {G0 own0:Nat→Prop} {o:Oper} {a:Act} {c:Cx}
theorem c8D {w w':World} {G G':Nat→Prop}:∀ (t:Ty),t.hasSl=false→∀ (x:t.D) (cs:List Value),Enc w G t x cs→Enc w' G' t x cs:=by
 intro t
 induction t with
 | cons a b iha ihb =>
  intro h x cs he
  simp only [Ty.hasSl,Bool.or_eq_false_iff] at h
  obtain ⟨c1,c2,e,h1,h2⟩:=he
  exact ⟨c1,c2,e,iha h.1 _ _ h1,ihb h.2 _ _ h2⟩
 | arr n t ih=>intro h x cs he; exact c9Y (fun x cs he=>ih h x cs he) n x cs he
 | sl t _=>intro h; cases h
 | opq=>intro _ x cs he; exact he.elim
 | _=>intro _ x cs he; exact he
theorem g6E (hM:Mem base G0 own0 c) (t:Ty) (lent:List Nat) (hl:∀ b∈lent,live (a0L c.H b)=true) :
  ∃ c1,c1.w=c.w∧c1.H=a2I c.H (kill (d3O t lent))∧c1.ρ=c.ρ∧Ext c c1∧Mem base G0 own0 c1∧(∀ b,b ∉ lent→a0L c1.H b=a0L c.H b) ∧
   ∀ (x:t.D) (cs:List Value),Enc c.w (b3D c lent) t x cs→Enc c1.w c1.G t x cs:=by
 cases ht:t.hasSl with
 | true =>
  obtain ⟨c1,h1,h2,h3,h4,h5,h6,h7⟩:=h2R hM lent hl
  exact ⟨c1,h1,by rw [show d3O t lent=lent by unfold d3O; rw [ht]]; exact h2,h3,h4,h5,h6,fun x cs he=>h7 t x cs he⟩
 | false =>
  obtain ⟨c1,h1,h2,h3,h4,h5,h6,_⟩:=h2R hM [] (fun b hb=>by cases hb)
  exact ⟨c1,h1,by rw [show d3O t lent=[] by unfold d3O; rw [ht]]; exact h2,h3,h4,h5,fun b _=>h6 b (by simp),fun x cs he=>c8D t ht x cs he⟩
theorem c7I (hM:Mem base G0 own0 c) {t:Ty} {u:PV} {x:t.D} {lent:List Nat} {v:Value} (hv:VOk c u v) (h:a4E c.H t u=some (x,lent)) :
  ∃ us,a1J c u us∧v=mkV t.isAgg us∧Enc c.w (b3D c lent) t x us:=by
 have key:∀ us,a1J c u us→a4R u=t.isAgg:=by
  intro us hc
  have he:=d0W hM.blk t u us x lent hc h
  cases u with
  | val s y =>
   have:(match Ty.cast s t y with | some y=>some (y,([]:List Nat)) | none=>none)=some (x,lent):=by cases t<;>exact h
   split at this
   ·
    rename_i y' hy
    obtain ⟨e,_⟩:=a8R hy
    subst e; rfl
   ·
    cases this
  | pair p q=>cases t<;>first | rfl | (simp [a4E] at h)
  | _=>cases t<;>first | rfl | (simp [a4E] at h)
 cases u with
 | tup p=>cases t<;>simp [a4E] at h
 | undef=>cases t<;>simp [a4E] at h
 | _ =>
  obtain ⟨us,h1,h2⟩:=hv
  exact ⟨us,h1,by rw [h2,key us h1],d0W hM.blk t _ us x lent h1 h⟩
theorem f3U (hM:Mem base G0 own0 c) {t:Ty} (L:List Nat):∀ (ps:List (Nat×Operand)) (args:List PV) (l l':List t.D) (xs:List Value) (lent:List Nat),
  All2 (VOk c) args (ps.map fun x=>a.eval x.2)→c1Z (Enc c.w (b3D c L) t) l xs→b9K c.H t l (b5Y (ps.map (·.1)) args)=some (l',lent)→(∀ b∈lent,b∈L) →
  ∃ xs',Instr.fill (fun i=>some (i*t.sz,t.sz)) xs.toArray (ps.map fun x=>(x.1,a.eval x.2))=some xs'.toArray∧c1Z (Enc c.w (b3D c L) t) l' xs'∧l'.length=l.length:=by
 intro ps
 induction ps with
 | nil =>
  intro args l l' xs lent ha he hv hL
  simp only [List.map_nil,b5Y,b9K,Option.some.injEq,Prod.mk.injEq] at hv
  obtain ⟨rfl,rfl⟩:=hv
  exact ⟨xs,rfl,he,rfl⟩
 | cons p ps ih =>
  intro args l l' xs lent ha he hv hL
  cases args with
  | nil=>exact ha.elim
  | cons u args =>
   obtain ⟨hu,ha⟩:=ha
   simp only [List.map_cons,b5Y,b9K] at hv
   split at hv
   ·
    rename_i hb
    have hi:p.1<l.length:=by have:=Nat.le_of_ble_eq_true hb; omega
    split at hv
    ·
     rename_i x b hx
     split at hv
     ·
      rename_i l2 b2 hr
      have hv:=Option.some.inj hv
      obtain ⟨rfl,rfl⟩:=Prod.mk.inj hv
      obtain ⟨us,hcu,hvu,heu⟩:=c7I hM hu hx
      have heu:=c7Q (b8A (fun y hy=>hL y (by simp [hy]))) heu
      have hlu:=a2U _ _ _ heu
      have hset:=e3A (fun x cs=>a2U t x cs) x us heu l xs p.1 hi he
      obtain ⟨xs',g1,g2,g3⟩:=ih args (setAt l p.1 x) l2 _ b2 ha hset hr (fun y hy=>hL y (by simp [hy]))
      refine ⟨xs',?_,g2,by rw [g3,d1N]⟩
      have hxl:=c8A (fun x cs=>a2U t x cs) l xs he
      have:(p.1+1)*t.sz≤l.length*t.sz:=Nat.mul_le_mul_right _ hi
      rw [Nat.succ_mul] at this
      have hvu':a.eval p.2=_:=hvu
      rw [List.map_cons,d5X rfl (by rw [hvu']; exact a9B hlu (d4U _ _ _ heu)) hlu (by omega)]
      exact g1
     ·
      cases hv
    ·
     cases hv
   ·
    cases hv
theorem d5Y {id:TypeId} {n:Nat} {ps:Array (Nat×Operand)} (ho:o.op=.buildSlice id n ps):execOp a.eval o=(do pure (.value (← Instr.buildSlice id n (ps.map fun x=>(x.1,a.eval x.2))))):=by
 simp only [execOp,ho]
theorem d3H (H:List Blk) (t:Ty):∀ (ps:List (Nat×PV)) (l l':List t.D) (lent:List Nat),b9K H t l ps=some (l',lent)→∀ b∈lent,live (a0L H b)=true
 | [],l,l',lent,h=>by simp only [b9K,Option.some.injEq,Prod.mk.injEq] at h; obtain ⟨_,rfl⟩:=h; intro b hb; simp at hb
 | (i,u)::ps,l,l',lent,h=>by
  simp only [b9K] at h
  split at h
  ·
   split at h
   ·
    rename_i x b hx
    split at h
    ·
     rename_i l2 b2 hr
     have h:=Option.some.inj h
     obtain ⟨_,rfl⟩:=Prod.mk.inj h
     intro y hy
     simp only [List.mem_append] at hy
     exact hy.elim (b4C H t u x b hx y) (d3H H t ps _ l2 b2 hr y)
    ·
     cases h
   ·
    cases h
  ·
   cases h
theorem f3V (hM:Mem base G0 own0 c) {t:Ty} {n:Nat} (L:List Nat):∀ (ps:List (Nat×Operand)) (args:List PV) (l l':Arr t.D n) (xs:List Value) (lent:List Nat),
  All2 (VOk c) args (ps.map fun x=>a.eval x.2)→b4V (Enc c.w (b3D c L) t) n l xs→b9M c.H t n l (b5Y (ps.map (·.1)) args)=some (l',lent)→(∀ b∈lent,b∈L) →
  ∃ xs',Instr.fill (fun i=>some (i*t.sz,t.sz)) xs.toArray (ps.map fun x=>(x.1,a.eval x.2))=some xs'.toArray∧b4V (Enc c.w (b3D c L) t) n l' xs':=by
 intro ps
 induction ps with
 | nil =>
  intro args l l' xs lent ha he hv hL
  simp only [List.map_nil,b5Y,b9M,Option.some.injEq,Prod.mk.injEq] at hv
  obtain ⟨rfl,rfl⟩:=hv
  exact ⟨xs,rfl,he⟩
 | cons p ps ih =>
  intro args l l' xs lent ha he hv hL
  cases args with
  | nil=>exact ha.elim
  | cons u args =>
   obtain ⟨hu,ha⟩:=ha
   simp only [List.map_cons,b5Y,b9M] at hv
   split at hv
   ·
    rename_i hb
    have hi:p.1<n:=by have:=Nat.le_of_ble_eq_true hb; omega
    split at hv
    ·
     rename_i x b hx
     split at hv
     ·
      rename_i l2 b2 hr
      have hv:=Option.some.inj hv
      obtain ⟨rfl,rfl⟩:=Prod.mk.inj hv
      obtain ⟨us,hcu,hvu,heu⟩:=c7I hM hu hx
      have heu:=c7Q (b8A (fun y hy=>hL y (by simp [hy]))) heu
      have hlu:=a2U _ _ _ heu
      have hset:=d2E (fun x cs=>a2U t x cs) x us heu n l xs p.1 hi he
      obtain ⟨xs',g1,g2⟩:=ih args _ l2 _ b2 ha hset hr (fun y hy=>hL y (by simp [hy]))
      refine ⟨xs',?_,g2⟩
      have hxl:=c7Y (fun x cs=>a2U t x cs) n l xs he
      have:(p.1+1)*t.sz≤n*t.sz:=Nat.mul_le_mul_right _ hi
      rw [Nat.succ_mul] at this
      have hvu':a.eval p.2=_:=hvu
      rw [List.map_cons,d5X rfl (by rw [hvu']; exact a9B hlu (d4U _ _ _ heu)) hlu (by omega)]
      exact g1
     ·
      cases hv
    ·
     cases hv
   ·
    cases hv
theorem d3M (H:List Blk) (t:Ty) (n:Nat):∀ (r:List (Nat×PV)) (l l':Arr t.D n) (lent:List Nat),b9M H t n l r=some (l',lent)→∀ b∈lent,live (a0L H b)=true
 | [],l,l',lent,h,b,hb=>by
  simp only [b9M,Option.some.injEq,Prod.mk.injEq] at h
  obtain ⟨_,rfl⟩:=h
  cases hb
 | (i,u)::r,l,l',lent,h,b,hb=>by
  simp only [b9M] at h
  split at h
  ·
   split at h
   ·
    rename_i x b1 hx
    split at h
    ·
     rename_i l2 b2 hr
     have h:=Option.some.inj h
     obtain ⟨rfl,rfl⟩:=Prod.mk.inj h
     rcases List.mem_append.1 hb with hb | hb
     ·
      exact b4C _ _ _ _ _ hx b hb
     ·
      exact d3M H t n r _ _ _ hr b hb
    ·
     cases h
   ·
    cases h
  ·
   cases h
theorem e4H (hM:Mem base G0 own0 c) {id:TypeId} {ps:Array (Nat×Operand)} (ho:o.op=.build id ps) {n:Nat} {t:Ty} (ht:TI P id (.arr n t)) (hq:t.noOpq=true) {args:List PV} (ha:All2 (VOk c) args (ps.toList.map fun x=>a.eval x.2))
  {x:Arr t.D n} {lent:List Nat} (hf:b9M c.H t n (Ty.zero (.arr n t)) (b5Y (ps.toList.map (·.1)) args)=some (x,lent)) :
  a4W P base G0 own0 o a c (.val (.arr n t) x) (kill lent):=by
 obtain ⟨i,hi,_,hz0⟩:=ht.info
 have hz0:=hz0.resolve_right (by intro h; cases h)
 have hcz:(mkZ (.arr n t)).cells=(a6B (.arr n t)).toArray:=a9B (a4B _) (b3W _)
 obtain ⟨_,e,hu,he⟩:=ht.ok
 obtain ⟨d,hue,_⟩:=he.und
 obtain ⟨ie,hie,hse⟩:=c1R hue
 have hz:b4V (Enc c.w (b3D c lent) t) n (Ty.zero (.arr n t)) (a6B (.arr n t)):=d4D (.arr n t) hq
 obtain ⟨xs,g1,g2⟩:=f3V hM lent ps.toList args _ x _ lent ha hz hf (fun b hb=>hb)
 obtain ⟨c1,h1,h2,h3,h4,h5,h6,h7⟩:=h2R hM lent (d3M c.H t n _ _ _ _ hf)
 have hx:Enc c1.w c1.G (.arr n t) x xs:=h7 (.arr n t) x xs g2
 refine a6L (c':=c1) (v:=.agg xs.toArray) ?_ h4 h5 h2 ?_
 ·
  have:=run_build c.w id (ps.map fun x=>(x.1,a.eval x.2)) xs.toArray (P:=P) (by
   simp only [Program.built,hi,hu,hz0,hie,hse,he.size,hcz]
   simpa using g1)
  rw [d8S ho,h1]
  simp [this]
 ·
  exact ⟨xs,hx,rfl⟩
theorem d7U (hM:Mem base G0 own0 c) {id:TypeId} {n:Nat} {ps:Array (Nat×Operand)} (ho:o.op=.buildSlice id n ps) {t:Ty} (ht:TI P id (.sl t)) (hq:t.noOpq=true) (hsm:n*t.sz≤16777216) {args:List PV} (ha:All2 (VOk c) args (ps.toList.map fun x=>a.eval x.2))
  {l:List t.D} {lent:List Nat} (hf:b9K c.H t (b9Q n t.zero) (b5Y (ps.toList.map (·.1)) args)=some (l,lent)) (hfl:a1D n=true) {nb:Nat} (hn:a0L c.H nb=.unborn) :
  a4W P base G0 own0 o a c (.whole nb) (kill lent++[(nb,.row t l)]):=by
 obtain ⟨e,hu,he,i,hi,hby,hz⟩:=ht.elem t rfl
 have hz:=hz.resolve_right (by rintro rfl; cases hq)
 have hzc:(mkZ t).cells=(a6B t).toArray:=a9B (a4B t) (b3W t)
 have hlive:=d3H c.H t _ _ _ _ hf
 obtain ⟨xs,g1,g2,g3⟩:=f3U hM lent ps.toList args _ l _ lent ha (d1Q hq n) hf (fun b hb=>hb)
 rw [c8B] at g3
 obtain ⟨c1,h1,h2,h3,h4,h5,h6,h7⟩:=h2R hM lent hlive
 have hxl:=c8A (fun x cs=>a2U t x cs) l xs g2
 have hnl:nb ∉ lent:=fun h=>by have:=hlive nb h; rw [hn] at this; cases this
 have hn1:a0L c1.H nb=.unborn:=(h6 nb hnl).trans hn
 have hlim:n≤1073741824:=by simpa [a1D] using hfl
 obtain ⟨c2,k1,k2,k3,k4,k5⟩:=mem_row h5 hn1 (t:=t) (l:=l) (e:=e) none (d5O c1.w _ _)
  (by rw [g3]; exact e0M c1.w xs e t.sz n n (by rw [hxl,g3]) (Nat.le_refl _) (by simp only [maxLen]; omega))
  (by rw [List.take_of_length_le (by rw [hxl,g3]; exact Nat.le_refl _)]; exact b3L (fun x cs=>h7 t x cs) l xs g2)
  (by rw [g3]; simp only [LIM]; omega) none (fun i h=>by cases h) (fun r h=>by cases h) (fun r h=>by simp only [a6C,Option.some.injEq] at h; left; omega)
 refine a6L (c':=c2) ?_ (h4.trans k3) k4 (by rw [k2,h2,← a8G]; rfl) k5
 rw [k1,h1,d5Y ho]
 have hsz:i.size=t.sz:=by have:=he.size; simp [Program.cellsOf,hi] at this; exact this
 have hzr:(zeroValue e).run P c.w=.ok (mkZ t) c.w:=by simp [zeroValue,typeInfo,hi,hz]
 have hfill:Instr.fill (fun i=>some (i*t.sz,t.sz)) ((b9Q n (a6B t)).flatten).toArray (ps.map fun x=>(x.1,a.eval x.2)).toList=some xs.toArray:=by simpa using g1
 have hrun:(Instr.buildSlice id n (ps.map fun x=>(x.1,a.eval x.2))).run P c.w=.ok (.slice (some ⟨c.w.heap.size,0,none⟩) n n) (c.w.alloc (.cells xs.toArray e)):=by
  unfold Instr.buildSlice
  simp only [Sem.run_bind,run_underlying hu,Result.andThen_ok,he.run_size]
  rw [if_neg (by simp; omega)]
  by_cases h0:n*t.sz=0
  ·
   have hfl0:(b9Q n (a6B t)).flatten=[]:=List.eq_nil_of_length_eq_zero (by rw [c0N,a4B]; exact h0)
   have hr0:Array.range 0=#[]:=rfl
   rw [hfl0] at hfill
   rw [if_pos h0,h0,hr0]
   simp only [Sem.run_pure,Sem.run_bind,Result.andThen_ok,Array.map_empty,hfill]
   simp [newRow]
  ·
   rw [if_neg h0]
   rw [← d9W,a4B] at hfill
   simp only [Sem.run_bind,hzr,Result.andThen_ok,Sem.run_pure,hzc,hfill]
   simp [newRow]
 simp only [Sem.run_bind,hrun,Result.andThen_ok,Sem.run_pure]
theorem run_append_room' (w:World) (t ty e e':TypeId) (i:TypeInfo) (ht:P.underlying t=some (.slice e)) (hi:P.info? e=some i)
  (g sLen sCap:Nat) (cur:Array Value) (hg:w.heap[g]?=some (.cells cur e' (0,0))) (x:Value) (m:Nat) (hm:Builtin.lenOf x=pure m) (news:List Value) (hnews:(Builtin.firstCells i.size m x).run P w=.ok news.toArray w) (h1:∀ u∈news,u.oneCell'=true)
  (hl:news.length=m*i.size) (hroom:sLen+m≤sCap) (hfit:sLen*i.size+news.length≤cur.size) :
  (Builtin.append_ #[t,t] ty #[.slice (some ⟨g,0,none⟩) sLen sCap,x]).run P w =
   .ok (.slice (some ⟨g,0,none⟩) (sLen+m) sCap) (w.setRow g (cur.toList.take (sLen*i.size)++news++cur.toList.drop (sLen*i.size+news.length)).toArray):=by
 have hst:=run_storeCells_at P g (sLen*i.size) e' news 0 cur w hg (by simpa using hfit) h1
 simp only [Nat.add_zero] at hst
 simp [Builtin.append_,run_underlying ht,Go.sizeOf,typeInfo,hi,hm,hroom,hnews,add_lit,hst]
theorem run_append_grow' (w:World) (t ty e:TypeId) (i:TypeInfo) (z:Value) (ht:P.underlying t=some (.slice e)) (hi:P.info? e=some i) (hz:i.zero=some z)
  (b:Option Addr) (sLen sCap:Nat) (olds:List Value) (holds:(Builtin.firstCells i.size sLen (.slice b sLen sCap)).run P w.drew=.ok olds.toArray w.drew)
  (x:Value) (n:Nat) (hm:Builtin.lenOf x=pure n) (news:List Value) (hnews:(Builtin.firstCells i.size n x).run P w.drew=.ok news.toArray w.drew)
  (hg:sCap<sLen+n) (h63:((sLen+n:Nat):Int)≤9223372036854775807) (hfit:Builtin.nextslicecap (sLen+n) sCap*i.bytes≤281474976710656) :
  (Builtin.append_ #[t,t] ty #[.slice b sLen sCap,x]).run P w =
   .ok (.slice (some ⟨w.heap.size,0,none⟩) (sLen+n) (grownCap w (sLen+n) sCap e))
    (w.drew.alloc (.cells (olds++news++(Builtin.zeroCells z.cells (grownCap w (sLen+n) sCap e-(sLen+n))).toList).toArray e)):=by
 have hn:¬ (sLen+n≤sCap):=by omega
 have h63':¬ (9223372036854775807<((sLen:Int)+(n:Int))):=by omega
 have h48':¬ (281474976710656<Builtin.nextslicecap (sLen+n) sCap*i.bytes):=by omega
 simp [Builtin.append_,run_underlying ht,Go.sizeOf,typeInfo,zeroValue,hi,hz,hm,hn,h63',h48',Question.forced,hnews,holds,newRow,grownCap]
 congr 2
 apply Array.ext'
 simp [List.append_assoc]
theorem d4V (a:Option Addr) (n cap:Nat):Builtin.lenOf (.slice a n cap)=pure n:=rfl
theorem e7Z {n m:Nat} (h:a1D n=true) (h':m≤n):m≤1073741824:=by simp only [a1D,decide_eq_true_eq] at h; omega
theorem c8R (w:World) {id e e':TypeId} (ty:TypeId) {t:Ty} (hu:P.underlying id=some (.slice e)) (he:TOk P t e) {i:TypeInfo} (hi:P.info? e=some i) (hby:i.bytes≤131072) (hz:i.zero=some (mkZ t)) (hsz:1≤t.sz)
  (hd:Value) (n:Nat) (xs:List Value) (ho:w.ownsRow 0 e' t.sz hd n xs) (x:Value) (m:Nat) (hm:Builtin.lenOf x=pure m) (news:List Value) (hl:news.length=m*t.sz)
  (hnews:∀ w',(w'=w∨w'=w.drew)→(Builtin.firstCells t.sz m x).run P w'=.ok news.toArray w') (h1:∀ u∈news,u.oneCell'=true) (hlim:n+m≤1073741824) :
  ∃ hd' w' e'',(Builtin.append_ #[id,id] ty #[hd,x]).run P w=.ok hd' w'∧w'.ownsRow 0 e'' t.sz hd' (n+m) (xs++news)∧w.grownBy w' (a6C hd)∧(∀ r,a6C hd'=some r→w.heap.size≤r∨a6C hd=some r):=by
 have hs:i.size=t.sz:=by have:=he.size; simp [Program.cellsOf,hi] at this; exact this
 have hzc:(mkZ t).cells=(a6B t).toArray:=a9B (a4B t) (b3W t)
 have hlen:(xs++news).length=(n+m)*t.sz:=by rw [List.length_append,ho.1,hl,Nat.add_mul]
 have hbytes:(n+m)*i.bytes≤140737488355328:=Nat.le_trans (Nat.mul_le_mul hlim hby) (by decide)
 have grown:∀ (b:Option Addr) (cap:Nat),cap<n+m→(Builtin.firstCells i.size n (.slice b n cap)).run P w.drew=.ok xs.toArray w.drew→∃ hd' w' e'',(Builtin.append_ #[id,id] ty #[.slice b n cap,x]).run P w=.ok hd' w'∧w'.ownsRow 0 e'' t.sz hd' (n+m) (xs++news)∧w.grownBy w' (a6C (.slice b n cap))∧(∀ r,a6C hd'=some r→w.heap.size≤r∨a6C (.slice b n cap)=some r):=by
  intro b cap hc holds
  have hrun:=run_append_grow' (P:=P) w id ty e i (mkZ t) hu hi hz b n cap xs holds x m hm news (by rw [hs]; exact hnews w.drew (.inr rfl)) hc (by omega) (growslice_fits hc hbytes)
  have hge:=grownCap_ge w (n+m) cap e
  have hcm:grownCap w (n+m) cap e≤maxLen:=grownCap_le_maxLen w (n+m) cap e (by simp only [maxLen]; omega)
  refine ⟨_,_,e,hrun,⟨hlen,.inr ⟨w.heap.size,_,_,rfl,Nat.zero_le _,d0T w.drew _,hge,hcm,?_,?_⟩⟩,⟨rfl,rfl,rfl,by simp,fun k hk _=>d1E w.drew _ hk⟩,fun r hr=>?_⟩
  ·
   simp only [List.size_toArray,List.length_append,Array.length_toList,size_zeroCells,hzc,a4B]
   rw [ho.1,hl,← Nat.add_mul,← Nat.add_mul]
   congr 1
   omega
  ·
   simp only [List.append_assoc]
   rw [← List.append_assoc,← hlen]
   exact List.take_left
  ·
   simp only [a6C,Option.some.injEq] at hr; left; omega
 rcases b1U ho with ⟨e1,e2,e3⟩ | ⟨g,cap,cur,e1,e2,e3,e4,e5,e6,e7⟩
 ·
  subst e1 e2 e3
  by_cases h0:m=0
  ·
   subst h0
   have hn:news=[]:=List.eq_nil_of_length_eq_zero (by rw [hl]; simp)
   subst hn
   refine ⟨.slice none 0 0,w,e,?_,⟨by simp,.inl ⟨rfl,rfl⟩⟩,⟨rfl,rfl,rfl,Nat.le_refl _,fun _ _ _=>rfl⟩,fun r hr=>by cases hr⟩
   have:=hnews w (.inl rfl)
   simp [Builtin.append_,run_underlying hu,Go.sizeOf,typeInfo,hi,hs,hm,this]
  ·
   exact grown none 0 (by omega) (by simp [Builtin.firstCells])
 ·
  subst e1
  by_cases hroom:n+m≤cap
  ·
   have hfit:n*t.sz+news.length≤cur.size:=by rw [hl,e5,← Nat.add_mul]; exact Nat.mul_le_mul_right _ hroom
   have hrun:=run_append_room' (P:=P) w id ty e e' i hu hi g n cap cur e2 x m hm news (by rw [hs]; exact hnews w (.inl rfl)) h1 (by rw [hs]; exact hl) hroom (by rw [hs]; exact hfit)
   rw [hs] at hrun
   refine ⟨_,_,e',hrun,⟨hlen,.inr ⟨g,cap,_,rfl,Nat.zero_le _,setRow_heap w g cur _ e' _ e2,hroom,e4,?_,?_⟩⟩,⟨rfl,rfl,rfl,by simp,fun k _ hk=>setRow_other w g k _ (fun e=>hk (by simp [a6C,e]))⟩,fun r hr=>.inr hr⟩
   ·
    simp only [List.size_toArray,List.length_append,List.length_take,List.length_drop,Array.length_toList]
    omega
   ·
    rw [e6,← hlen]
    exact List.take_left
  ·
   refine grown (some ⟨g,0,none⟩) cap (by omega) ?_
   rw [hs]
   refine run_firstCells_some (P:=P) w.drew t.sz n ⟨g,0,none⟩ n cap xs ho.1 fun j v hj=>?_
   rw [add_lit]
   have:=e7 j v hj
   rw [World.cell?_drew]
   simp only [World.cell?,e2,Option.isSome_none,Bool.false_eq_true,if_false]
   exact this
theorem b8K {w:World} {G:Nat→Prop} {t:Ty} {ys:List t.D} {us:List Value} (h:Enc w G (.sl t) ys us):∃ ad cap news,us=[.slice ad ys.length cap]∧news.length=ys.length*t.sz∧c1Z (Enc w G t) ys news ∧
  ∀ w',(∀ a,w'.cell? a=w.cell? a)→(Builtin.firstCells t.sz ys.length (.slice ad ys.length cap)).run P w'=.ok news.toArray w':=by
 obtain ⟨ad,cap,hus,hcap,hlim,hr⟩:=h
 have build:∀ (l:List t.D) (r off:Nat),rowAt w (Enc w G t) t.sz r off l→∃ news:List Value,news.length=l.length*t.sz∧c1Z (Enc w G t) l news∧c3E w r off news:=by
  intro l
  induction l with
  | nil=>intro r off _; exact ⟨[],by simp,rfl,fun j d h=>by simp at h⟩
  | cons y l ih =>
   intro r off hrow
   obtain ⟨ds,h1,h2⟩:=hrow 0 y rfl
   obtain ⟨news,k1,k2,k3⟩:=ih r (off+t.sz) (fun i x hi=>by
    obtain ⟨ds,g1,g2⟩:=hrow (i+1) x (by simpa using hi)
    exact ⟨ds,g1,by rw [Nat.succ_mul] at g2; rw [show off+t.sz+i*t.sz=off+(i*t.sz+t.sz) by omega]; exact g2⟩)
   have hl:=a2U _ _ _ h1
   refine ⟨ds++news,by simp [hl,k1,Nat.succ_mul]; omega,⟨ds,news,rfl,h1,k2⟩,fun j d hj=>?_⟩
   by_cases hjl:j<ds.length
   ·
    rw [List.getElem?_append_left hjl] at hj
    have:=h2 j d hj
    simpa using this
   ·
    rw [List.getElem?_append_right (by omega)] at hj
    have:=k3 _ d hj
    rw [show off+t.sz+(j-ds.length)=off+j by omega] at this
    exact this
 rcases hr with hr | ⟨⟨r,q,spot⟩,rfl,hsp,hG,hrow⟩
 ·
  have hr:ys=[]:=hr
  subst hr
  refine ⟨ad,cap,[],hus,by simp,rfl,fun w' _=>?_⟩
  cases ad with
  | none=>simp [Builtin.firstCells]
  | some q=>simp [Builtin.firstCells,loadCells,loadCellsFrom]
 ·
  simp only at hsp hG hrow
  subst hsp
  obtain ⟨news,k1,k2,k3⟩:=build ys r q hrow
  refine ⟨_,cap,news,hus,k1,k2,fun w' hw'=>?_⟩
  refine run_firstCells_some (P:=P) w' t.sz ys.length ⟨r,q,none⟩ ys.length cap news k1 fun j v hj=>?_
  rw [add_lit,hw']
  exact k3 j v hj
theorem e1O {w:World} {G:Nat→Prop} {t:Ty}:∀ (l:List t.D) (xs:List Value),c1Z (Enc w G t) l xs→∀ v∈xs,v.oneCell'=true
 | [],_,h,v,hv=>by simp only [c1Z] at h; subst h; simp at hv
 | x::l,_,h,v,hv=>by
  obtain ⟨c1,c2,rfl,h1,h2⟩:=h
  simp only [List.mem_append] at hv
  exact hv.elim (d4U _ _ _ h1 v) (e1O l c2 h2 v)
theorem c1D {k:Call} {x y:Operand} (ho:o.op=.call k) (hk:k.callee=.builtin .append) (hargs:k.args=#[x,y]):execOp a.eval o=(do pure (.value (← Builtin.append_ k.argTypes o.type #[a.eval x,a.eval y]))):=by
 obtain ⟨cs,h⟩:=b3M (a:=a) ho hk
 rw [h,hargs]
 simp only [builtin,List.map_toArray,List.map_cons,List.map_nil]
theorem d6C (hM:Mem base G0 own0 c) {k:Call} {x y:Operand} (ho:o.op=.call k) (hk:k.callee=.builtin .append) (hargs:k.args=#[x,y]) {id:TypeId} (hat:k.argTypes=#[id,id]) {t:Ty} (ht:TI P id (.sl t)) (hq:t.noOpq=true) (hsz:1≤t.sz)
  {py:PV} {ys:List t.D} {lent:List Nat} (hx:VOk c .nils (a.eval x)) (hy:VOk c py (a.eval y)) (hv:a4E c.H (.sl t) py=some (ys,lent)) (hfl:a1D ys.length=true) {nb:Nat} (hn:a0L c.H nb=.unborn) :
  a4W P base G0 own0 o a c (.whole nb) (kill (d3O t lent)++[(nb,.row t ys)]):=by
 obtain ⟨e,hu,he,i,hi,hby,hz⟩:=ht.elem t rfl
 have hz:=hz.resolve_right (by rintro rfl; cases hq)
 obtain ⟨us,_,hvu,hen⟩:=c7I hM hy hv
 obtain ⟨cs,hc,hxv⟩:=hx
 simp only [a1J] at hc
 subst hc
 have hxv:a.eval x=.slice none 0 0:=hxv
 obtain ⟨ad,cap,news,rfl,hnl,hne,hfc⟩:=b8K (P:=P) hen
 have hyv:a.eval y=.slice ad ys.length cap:=hvu
 have hlim:ys.length≤1073741824:=e7Z hfl (Nat.le_refl _)
 obtain ⟨hd',w',e'',hrun,hown,hg,hnew⟩:=c8R (P:=P) c.w o.type hu he hi hby hz hsz (.slice none 0 0) 0 [] (e':=e) ⟨by simp,.inl ⟨rfl,rfl⟩⟩ (.slice ad ys.length cap) ys.length rfl news hnl
  (fun w' hw'=>hfc w' (by rcases hw' with rfl | rfl<;>intro a<;>rfl)) (e1O ys news hne) (by omega)
 obtain ⟨c1,h1,h2,h3,h4,h5,h6,h7⟩:=g6E hM t lent (b4C _ _ _ _ _ hv)
 have hnl':nb ∉ lent:=fun h=>by have:=b4C _ _ _ _ _ hv nb h; rw [hn] at this; cases this
 rw [← h1] at hg hnew
 rw [Nat.zero_add,List.nil_append] at hown
 obtain ⟨c2,k1,k2,k3,k4,k5⟩:=mem_row h5 ((h6 nb hnl').trans hn) (t:=t) (l:=ys) none (by simpa [a6C] using hg) hown (b3L (fun x cs=>h7 x cs) ys news hne) (by simp only [LIM]; omega) none (fun i h=>by cases h) (fun r h=>by cases h)
  (fun r h=>by rcases hnew r h with h' | h'; exact .inl h'; cases h')
 refine a6L (c':=c2) ?_ (h4.trans k3) k4 (by rw [k2,h2,← a8G]; rfl) k5
 rw [k1,c1D ho hk hargs,hat,hxv,hyv]
 simp only [Sem.run_bind,hrun,Result.andThen_ok,Sem.run_pure]
theorem e4L (z:List Value) (n:Nat):(Builtin.zeroCells z.toArray n).toList=(b9Q n z).flatten:=by
 apply List.ext_getElem?
 intro j
 by_cases hj:j<n*z.length
 ·
  have hpos:0<z.length:=by
   rcases Nat.eq_zero_or_pos z.length with h | h
   ·
    rw [h] at hj; simp at hj
   ·
    exact h
  rw [flat_get _ hpos _ _ hj]
  have hm:=Nat.mod_lt j hpos
  simp [Builtin.zeroCells,hj,List.getElem?_eq_getElem hm,getElem!_pos,hm]
 ·
  rw [List.getElem?_eq_none (by simp [Builtin.zeroCells]; omega),List.getElem?_eq_none (by rw [c0N]; omega)]
theorem d3V (hM:Mem base G0 own0 c) {k:Call} {x y:Operand} (ho:o.op=.call k) (hk:k.callee=.builtin .append) (hargs:k.args=#[x,y]) {id tn:TypeId} (hat:k.argTypes=#[id,tn]) {t:Ty} (ht:TI P id (.sl t)) {kk:IntKind} (htn:TI P tn (.int kk)) (hq:t.noOpq=true) (hsz:1≤t.sz)
  {kn:IntKind} {n:I kn} (h1:I.ltb (I.of kn 0) n=true) (h2:inB' n 1073741824=true) (hx:VOk c .nils (a.eval x)) (hy:VOk c (.val (.int kn) n) (a.eval y)) {nb:Nat} (hn:a0L c.H nb=.unborn) :
  a4W P base G0 own0 o a c (.whole nb) [(nb,.row t (b9Q n.nat t.zero))]:=by
 obtain ⟨e,hu,he,i,hi,hby,hz⟩:=ht.elem t rfl
 have hz:=hz.resolve_right (by rintro rfl; cases hq)
 obtain ⟨cs,hc,hxv⟩:=hx
 simp only [a1J] at hc
 subst hc
 have hxv:a.eval x=.slice none 0 0:=hxv
 obtain ⟨cs,hc,hyv⟩:=hy
 simp only [a1J,Enc] at hc
 subst hc
 obtain ⟨b1,b2,b3,b4⟩:=inB'_iff h2
 have hpos:0<n.nat:=by
  have h0:(I.of kn 0).val=0:=d5Z kn
  have:(I.of kn 0).val<n.val:=by simpa [I.ltb] using h1
  omega
 have hyv:a.eval y=.int kn (n.nat:Int):=by rw [← b4]; exact hyv
 have hs:i.size=t.sz:=by have:=he.size; simp [Program.cellsOf,hi] at this; exact this
 have hzc:(mkZ t).cells=(a6B t).toArray:=a9B (a4B t) (b3W t)
 have hbytes:n.nat*i.bytes≤140737488355328:=Nat.le_trans (Nat.mul_le_mul b3 hby) (by decide)
 have hrun:=Lib.run_append_nil_zeros (P:=P) c.w id tn o.type e i (mkZ t) kn kk hu htn.ok.2 hi hz n.nat hpos (by omega) (by omega) (by omega)
 have hge:=grownCap_ge c.w n.nat 0 e
 have hcm:grownCap c.w n.nat 0 e≤maxLen:=grownCap_le_maxLen c.w n.nat 0 e (by simp only [maxLen]; omega)
 obtain ⟨c2,k1,k2,k3,k4,k5⟩:=mem_row hM hn (t:=t) (l:=b9Q n.nat t.zero) (e:=e) (xs:=(b9Q n.nat (a6B t)).flatten) none
  (w':=c.w.drew.alloc (.cells (Builtin.zeroCells (mkZ t).cells n.nat++Builtin.zeroCells (mkZ t).cells (grownCap c.w n.nat 0 e-n.nat)) e)) (hd:=.slice (some ⟨c.w.heap.size,0,none⟩) n.nat (grownCap c.w n.nat 0 e))
  ⟨rfl,rfl,rfl,by simp,fun k hk _=>d1E c.w.drew _ hk⟩
  (by
   rw [c8B]
   refine ⟨by rw [c0N,a4B],.inr ⟨c.w.heap.size,_,_,rfl,Nat.zero_le _,d0T c.w.drew _,hge,hcm,?_,?_⟩⟩
   ·
    simp only [Array.size_append,size_zeroCells,hzc,List.size_toArray,a4B]
    rw [← Nat.add_mul]
    congr 1
    omega
   ·
    rw [hzc,Array.toList_append,e4L,e4L]
    exact List.take_left' (by rw [c0N,a4B]))
  (d1Q hq n.nat) (by rw [c8B]; simp only [LIM]; omega) none (fun i h=>by cases h) (fun r h=>by cases h) (fun r h=>by simp only [a6C,Option.some.injEq] at h; left; omega)
 refine a6L (c':=c2) ?_ k3 k4 (by simpa [c9L] using k2) k5
 rw [k1,c1D ho hk hargs,hat,hxv,hyv]
 simp only [Sem.run_bind,hrun,Result.andThen_ok,Sem.run_pure]
theorem d8C (hM:Mem base G0 own0 c) {k:Call} {x y:Operand} (ho:o.op=.call k) (hk:k.callee=.builtin .append) (hargs:k.args=#[x,y]) {id:TypeId} (hat:k.argTypes=#[id,id]) {t:Ty} (ht:TI P id (.sl t)) (hq:t.noOpq=true) (hsz:1≤t.sz)
  {py:PV} {ys:List t.D} {lent:List Nat} {b:Nat} {l:List t.D} (hb:a0L c.H b=.row t l) (hnb:b ∉ lent) (hx:VOk c (.whole b) (a.eval x)) (hy:VOk c py (a.eval y)) (hv:a4E c.H (.sl t) py=some (ys,lent)) (hfl:a1D (l++ys).length=true) {nb:Nat} (hn:a0L c.H nb=.unborn) :
  a4W P base G0 own0 o a c (.whole nb) (kill (d3O t lent)++[(b,.dead),(nb,.row t (l++ys))]):=by
 obtain ⟨e,hu,he,i,hi,hby,hz⟩:=ht.elem t rfl
 have hz:=hz.resolve_right (by rintro rfl; cases hq)
 obtain ⟨us,_,hvu,hen⟩:=c7I hM hy hv
 obtain ⟨ad,cap,news,rfl,hnl,hne,hfc⟩:=b8K (P:=P) hen
 have hyv:a.eval y=.slice ad ys.length cap:=hvu
 obtain ⟨c1,h1,h2,h3,h4,h5,h6,h7⟩:=g6E hM t lent (b4C _ _ _ _ _ hv)
 have hx1:=d5F h4 hx
 have hb1:=(h6 b hnb).trans hb
 obtain ⟨cs,⟨v,rfl,_,hw⟩,hxv⟩:=hx1
 have hB:=h5.blk b
 unfold b2E at hw
 unfold BlkOk at hB
 simp only [hb1] at hw hB
 obtain ⟨hlim0,e0,xs,hown0,hx0⟩:=hB
 have hxv:a.eval x=c1.ρ b:=by rw [← hw]; exact hxv
 have hlim:l.length+ys.length≤1073741824:=by rw [← List.length_append]; exact e7Z hfl (Nat.le_refl _)
 have hne1:=b3L (fun x cs=>h7 x cs) ys news hne
 obtain ⟨hd',w',e'',hrun,hown,hg,hnew⟩:=c8R (P:=P) c1.w o.type hu he hi hby hz hsz (c1.ρ b) l.length xs hown0 (.slice ad ys.length cap) ys.length rfl news hnl
  (fun w' hw'=>hfc w' (by rcases hw' with rfl | rfl<;>intro a<;>first | (rw [h1]; done) | (rw [h1]; rfl))) (e1O ys news hne) hlim
 have hbn:b≠nb:=by rintro rfl; rw [hb] at hn; cases hn
 have hnl':nb ∉ lent:=fun h=>by have:=b4C _ _ _ _ _ hv nb h; rw [hn] at this; cases this
 obtain ⟨c2,k1,k2,k3,k4,k5⟩:=mem_row h5 ((h6 nb hnl').trans hn) (t:=t) (l:=l++ys) (a6C (c1.ρ b)) hg (by rw [List.length_append]; exact hown) (e1U l ys xs news hx0 hne1) (by rw [List.length_append]; simp only [LIM]; omega) (some b)
  (fun i h=>by cases h; exact ⟨by rw [hb1]; rfl,hbn⟩) (fun r h _=>⟨b,rfl,h⟩) (fun r h=>(hnew r h).imp _root_.id fun h=>⟨b,rfl,h⟩)
 refine a6L (c':=c2) ?_ (h4.trans k3) k4 (by rw [k2,h2,← a8G]; rfl) k5
 rw [k1,c1D ho hk hargs,hat,hxv,hyv,← h1]
 simp only [Sem.run_bind,hrun,Result.andThen_ok,Sem.run_pure]
end
end Sym

/- The laws of single operations, eleventh part: copy of a part of an array of whole numbers over a whole one. -/
namespace Sym
open Go
variable {P:Program} {base:World} {G0 own0:Nat→Prop} {c:Cx} {a:Act} {o:Oper}
theorem e0D {X:Type} {E:X→List Value→Prop} (h1:∀ x cs,E x cs→cs.length=1):∀ (n:Nat) (l:List X) (cs:List Value),c1Z E l cs→c1Z E (l.drop n) (cs.drop n)
 | 0,_,_,h=>h
 | n+1,[],cs,h=>by simp only [c1Z] at h; subst h; rfl
 | n+1,x::l,cs,h=>by
  obtain ⟨c1,c2,rfl,e1,e2⟩:=h
  have:=h1 _ _ e1
  match c1,this with
  | [v],_=>exact e0D h1 n l c2 e2
theorem d8T {X:Type} {E:X→List Value→Prop} (h1:∀ x cs,E x cs→cs.length=1):∀ (n:Nat) (l:List X) (cs:List Value),c1Z E l cs→c1Z E (l.take n) (cs.take n)
 | 0,_,_,h=>rfl
 | n+1,[],cs,h=>by simp only [c1Z] at h; subst h; rfl
 | n+1,x::l,cs,h=>by
  obtain ⟨c1,c2,rfl,e1,e2⟩:=h
  have:=h1 _ _ e1
  match c1,this,e1 with
  | [v],_,e1=>exact ⟨[v],c2.take n,rfl,e1,d8T h1 n l c2 e2⟩
theorem d1I {X:Type} {E:X→List Value→Prop} (d:X):∀ (n:Nat) (l:List X) (cs:List Value),l.length=n→c1Z E l cs→b4V E n (Arr.ofList d n l) cs
 | 0,l,cs,hl,h=>by
  match l,hl with
  | [],_=>exact h
 | n+1,x::l,cs,hl,h=>by
  obtain ⟨c1,c2,e,e1,e2⟩:=h
  exact ⟨c1,c2,e,e1,d1I d n l c2 (by simpa using hl) e2⟩
 | n+1,[],cs,hl,h=>by simp at hl
theorem f1B {w:World} {G:Nat→Prop} {k:IntKind} (x:(Ty.int k).D) (cs:List Value) (h:Enc w G (.int k) x cs):cs.length=1:=by
 simp only [Enc] at h; subst h; rfl
theorem d4X {w:World} {G:Nat→Prop} {k:IntKind}:∀ (l:List (I k)) (cs:List Value),c1Z (Enc w G (.int k)) l cs→∀ v∈cs,v.oneCell'=true
 | [],cs,h=>by simp only [c1Z] at h; subst h; simp
 | x::l,cs,h=>by
  obtain ⟨c1,c2,rfl,e1,e2⟩:=h
  simp only [Enc] at e1
  subst e1
  intro v hv
  simp only [List.cons_append,List.nil_append,List.mem_cons] at hv
  rcases hv with rfl | hv
  ·
   rfl
  ·
   exact d4X l c2 e2 v hv
theorem f3Z {k:Call} {x y:Operand} (ho:o.op=.call k) (hk:k.callee=.builtin .copy) (hargs:k.args=#[x,y]):execOp a.eval o=(do pure (.value (← Builtin.copy_ k.argTypes o.type #[a.eval x,a.eval y]))):=by
 obtain ⟨cs,h⟩:=b3M (a:=a) ho hk
 rw [h,hargs]
 simp only [builtin,List.map_toArray,List.map_cons,List.map_nil]
theorem add_plain (b o j:Nat):(⟨b,o,none⟩:Addr).add j=⟨b,o+j,none⟩:=by unfold Addr.add; split<;>simp_all
theorem g1S (hM:Mem base G0 own0 c) {k:Call} {x y:Operand} (ho:o.op=.call k) (hk:k.callee=.builtin .copy) (hargs:k.args=#[x,y]) {id id2:TypeId} (hat:k.argTypes=#[id,id2]) {kd:IntKind} (ht:TI P id (.sl (.int kd)))
  {b b2 m m2 lo:Nat} {v:PV} {s:Ty} {z:(Ty.arr m2 (.int kd)).D} (hx:VOk c (.aview b [] 0 m) (a.eval x)) (hy:VOk c (.aview b2 [] lo m) (a.eval y)) (hb:a0L c.H b=.box (.arr m (.int kd)) v) (hb2:a0L c.H b2=.box s (.val (.arr m2 (.int kd)) z)) (hm:1≤m) (hm2:m≤1048576) :
  a4W P base G0 own0 o a c (.val (.int .i64) (I.ofNat .i64 m)) [(b,.box (.arr m (.int kd)) (.val (.arr m (.int kd)) (Arr.ofList (I.of kd 0) m (a3T (Arr.list m2 z) lo m))))]:=by
 obtain ⟨e,hu,he,i,hi,hby,hz⟩:=ht.elem (.int kd) rfl
 have hs:(P.info? e).map (·.size)=some 1:=by
  have:=he.size
  simp [Program.cellsOf,hi] at this
  rw [hi]
  exact congrArg some this
 obtain ⟨_,⟨xv,rfl,_,hxa⟩,hxe⟩:=hx
 obtain ⟨_,⟨yv,rfl,_,hya⟩,hye⟩:=hy
 have hxe:a.eval x=xv:=hxe
 have hye:a.eval y=yv:=hye
 have hB:=hM.blk b
 have hB2:=hM.blk b2
 unfold c3F at hxa hya
 unfold BlkOk at hB hB2
 simp only [hb] at hxa hB
 simp only [hb2] at hya hB2
 obtain ⟨r,o1,m1,u1,hρ,hoff,hle,_,hsl⟩:=hxa
 obtain ⟨r',cs,ty,hρ',hh,hc,hf⟩:=hB
 obtain ⟨r2,o2,m3,u3,hρ2,hoff2,hle2,_,hsl2⟩:=hya
 obtain ⟨r2',cs2,ty2,hρ2',hh2,hc2,hf2⟩:=hB2
 have hρ0:=hρ'
 rw [hρ'] at hρ
 simp only [Value.pointer.injEq,Option.some.injEq,Addr.mk.injEq] at hρ
 obtain ⟨rfl,_,_⟩:=hρ
 rw [hρ2'] at hρ2
 simp only [Value.pointer.injEq,Option.some.injEq,Addr.mk.injEq] at hρ2
 obtain ⟨rfl,_,_⟩:=hρ2
 have hse:=Ty.beq_eq hf2
 subst hse
 simp only [a2J,Option.some.injEq,Prod.mk.injEq,Ty.arr.injEq] at hoff hoff2
 obtain ⟨rfl,rfl,rfl⟩:=hoff
 obtain ⟨rfl,rfl,rfl⟩:=hoff2
 have hcl:cs.length=m:=by
  have:=a6I _ _ _ hc hf
  simpa [Ty.sz] using this
 have hEL:=c5A m2 z cs2 hc2
 have hcl2:cs2.length=m2:=by
  have:=a6I _ _ _ hc2 hf2
  simpa [Ty.sz] using this
 rcases hsl with ⟨h0,_⟩ | ⟨cap,rfl,hcap,_⟩
 ·
  omega
 rcases hsl2 with ⟨h0,_⟩ | ⟨cap2,rfl,hcap2,_⟩
 ·
  omega
 have hsub:c1Z (Enc c.w c.G (.int kd)) (a3T (Arr.list m2 z) lo m) ((cs2.drop lo).take m):=by
  have:=d8T (f1B (w:=c.w) (G:=c.G) (k:=kd)) m _ _ (e0D (f1B (w:=c.w) (G:=c.G) (k:=kd)) lo _ _ hEL)
  exact this
 have hsl:(a3T (Arr.list m2 z) lo m).length=m:=by
  have hll:(Arr.list m2 z).length=m2:=Arr.list_len m2 z
  show (((Arr.list m2 z).drop lo).take m).length=m
  rw [List.length_take,List.length_drop,hll]
  omega
 have hnew:a1J c (.val (.arr m (.int kd)) (Arr.ofList (I.of kd 0) m (a3T (Arr.list m2 z) lo m))) ((cs2.drop lo).take m):=d1I _ _ _ _ hsl hsub
 have hlen:((cs2.drop lo).take m).length=m:=by
  simp only [List.length_take,List.length_drop]
  omega
 obtain ⟨c',h1,h2,h3,h4⟩:=e5Y hM hb hρ0 hh hnew (Ty.beq_refl _)
 refine a6L (c':=c') (v:=goInt m) ?_ h3 h4 h2 ?_
 ·
  have hrun:=run_copy_row (P:=P) c.w id id2 o.type e r' 0 m cap ⟨r2',0+lo*(Ty.int kd).sz,none⟩ m cap2 cs.toArray ty ((cs2.drop lo).take m) hu hs hh (by rw [hlen]; simp) (fun j d hj=>?_) (by rw [hlen]; simp; omega) (d4X _ _ hsub)
  ·
   have hset:(cs.toArray.toList.take 0++(cs2.drop lo).take m++cs.toArray.toList.drop (0+((cs2.drop lo).take m).length)).toArray=((cs2.drop lo).take m).toArray:=by
    rw [hlen]
    simp [hcl]
   rw [hset,hlen] at hrun
   rw [h1,f3Z ho hk hargs,hat,hxe,hye]
   have e0:(0:Nat)+0*(Ty.int kd).sz=0:=by simp
   rw [e0]
   simp only [Sem.run_bind,hrun,Result.andThen_ok,Sem.run_pure]
  ·
   rw [List.getElem?_take] at hj
   split at hj
   ·
    rw [List.getElem?_drop] at hj
    have hz1:(Ty.int kd).sz=1:=rfl
    have hlt:lo+j<cs2.length:=(List.getElem?_eq_some_iff.1 hj).1
    have ha:(⟨r2',0+lo*(Ty.int kd).sz,none⟩:Addr).add j=⟨r2',lo+j,none⟩:=by
     rw [add_plain,hz1]
     simp
    rw [ha]
    simp [World.cell?,hh2,hj]
   ·
    cases hj
 ·
  have hv:(I.ofNat .i64 m).val=m:=by
   show IntKind.i64.wrap (m:Int)=m
   refine a8K ⟨?_,?_⟩
   ·
    have:IntKind.i64.min=-9223372036854775808:=by decide
    omega
   ·
    have:IntKind.i64.max=9223372036854775807:=by decide
    omega
  have:=ok_int (c:=c') (I.ofNat .i64 m)
  rw [hv] at this
  exact this
end Sym

/- Laws: interfaces, closures, slices held against nil, rows cut short. -/
namespace Sym
open Go
section
variable {P:Program} {base:World} {G0 own0:Nat→Prop} {o:Oper} {a:Act} {c:Cx}
theorem plain_cells' {pv:PV} {v:Value} (h:VOk c pv v) (hp:c4Y pv=true):∃ cs,a1J c pv cs∧v=mkV (a4R pv) cs:=by
 cases pv with
 | tup a=>cases hp
 | undef=>cases hp
 | _=>exact h
theorem d6L {pv:PV} {cs:List Value} (h:a1J c pv cs):VOk c pv (mkV (a4R pv) cs):=by
 cases pv with
 | tup a=>exact h.elim
 | undef=>exact h.elim
 | _=>exact ⟨cs,h,rfl⟩
theorem TOk.not_iface {t:Ty} {id:TypeId} (h:TOk P t id):∃ d,P.underlying id=some d∧∀ ms,d≠.interface ms:=by
 cases t with
 | int k=>exact ⟨_,h.2,by simp⟩
 | bool=>exact ⟨_,h.2,by simp⟩
 | str=>exact ⟨_,h.2,by simp⟩
 | nil=>exact ⟨_,h.2,by simp⟩
 | cons a b=>obtain ⟨_,fs,f,r,h1,_⟩:=h; exact ⟨_,h1,by simp⟩
 | arr n t=>obtain ⟨_,e,h1,_⟩:=h; exact ⟨_,h1,by simp⟩
 | sl t=>obtain ⟨_,e,h1,_⟩:=h; exact ⟨_,h1,by simp⟩
 | opq =>
  obtain ⟨_,d,h1,h2⟩:=h
  refine ⟨d,h1,?_⟩
  rintro ms rfl
  cases h2
 | fnc =>
  obtain ⟨_,d,h1,h2⟩:=h
  refine ⟨d,h1,?_⟩
  rintro ms rfl
  cases h2
theorem d2B (hM:Mem base G0 own0 c) {id:TypeId} {x:Operand} (ho:o.op=.makeInterface id x) {t:Ty} (ht:TOk P t id) {px:PV} (hp:c4Y px=true) (hx:VOk c px (a.eval x)):a4W P base G0 own0 o a c (.iface id px) []:=by
 obtain ⟨cs,h1,h2⟩:=plain_cells' hx hp
 obtain ⟨d,hd,hne⟩:=ht.not_iface
 refine a1S hM (v:=.iface id (a.eval x)) ?_ ⟨[.iface id (a.eval x)],⟨cs,by rw [h2],h1⟩,rfl⟩
 simp only [execOp,ho,Instr.makeInterface,Sem.run_bind,run_underlying hd,Result.andThen_ok]
 cases d<;>first | rfl | exact absurd rfl (hne _)
theorem c9E (hM:Mem base G0 own0 c) {x:Operand} {xt id:TypeId} {ok:Bool} (ho:o.op=.typeAssert x xt id ok) {t:Ty} (ht:TOk P t id) {px:PV} (hx:VOk c (.iface id px) (a.eval x)) :
  a4W P base G0 own0 o a c (match ok with | true=>.tup (.pair px (.pair (.val .bool true) (.val .nil ()))) | false=>px) []:=by
 obtain ⟨cs,⟨ds,h1,h2⟩,h3⟩:=hx
 subst h1
 have h3:a.eval x=.iface id (mkV (a4R px) ds):=h3
 obtain ⟨d,hd,hne⟩:=ht.not_iface
 have hr:(Instr.typeAssert (.iface id (mkV (a4R px) ds)) xt id ok).run P c.w=.ok (if ok then .tuple #[mkV (a4R px) ds,.bool true] else mkV (a4R px) ds) c.w:=by
  simp only [Instr.typeAssert,Sem.run_bind,run_underlying hd,Result.andThen_ok]
  cases d<;>first | (simp; done) | exact absurd rfl (hne _)
 cases ok with
 | true =>
  refine a1S hM (v:=.tuple #[mkV (a4R px) ds,.bool true]) ?_ ⟨[mkV (a4R px) ds,.bool true],rfl,⟨ds,[.bool true],rfl,h2,⟨[.bool true],[],rfl,rfl,rfl⟩⟩⟩
  simp only [execOp,ho,h3,Sem.run_bind,hr,Result.andThen_ok]
  rfl
 | false =>
  refine a1S hM (v:=mkV (a4R px) ds) ?_ (d6L h2)
  simp only [execOp,ho,h3,Sem.run_bind,hr,Result.andThen_ok]
  rfl
theorem e4I:∀ (l:List PV) (us:List Value),l.all g6L=true→All2 (VOk c) l us→a1J c (l.foldr .pair (.val .nil ())) us
 | [],[],_,_=>rfl
 | p::l,u::us,h,ha=>by
  simp only [List.all_cons,Bool.and_eq_true] at h
  have hu:a1J c p [u]:=by
   have h1:=h.1
   cases p with
   | tup _=>cases h1
   | undef=>cases h1
   | pair _ _=>cases h1
   | val t x =>
    obtain ⟨cs,k1,k2⟩:=ha.1
    simp only [g6L,Bool.not_eq_true'] at h1
    have hl:=a2U _ _ _ k1
    have hs:t.sz=1:=by cases t<;>first | rfl | cases h1
    have:cs=[u]:=by
     match cs,hl with
     | [w],_=>rw [k2]; simp only [a4R,h1]; rfl
     | [],hl=>simp [hs] at hl
     | _::_::_,hl=>simp [hs] at hl
    rw [← this]; exact k1
   | nils=>obtain ⟨cs,k1,k2⟩:=ha.1; simp only [a1J] at k1; subst k1; rw [k2]; rfl
   | npt=>obtain ⟨cs,k1,k2⟩:=ha.1; simp only [a1J] at k1; subst k1; rw [k2]; rfl
   | fn f=>obtain ⟨cs,k1,k2⟩:=ha.1; simp only [a1J] at k1; subst k1; rw [k2]; rfl
   | ptr b q=>obtain ⟨cs,⟨v,k1,k3⟩,k2⟩:=ha.1; subst k1; rw [k2]; exact ⟨v,rfl,k3⟩
   | bptr t x=>obtain ⟨cs,⟨ad,ds,k1,k3⟩,k2⟩:=ha.1; subst k1; rw [k2]; exact ⟨ad,ds,rfl,k3⟩
   | whole b=>obtain ⟨cs,⟨v,k1,k3⟩,k2⟩:=ha.1; subst k1; rw [k2]; exact ⟨v,rfl,k3⟩
   | row b lo n=>obtain ⟨cs,⟨v,k1,k3⟩,k2⟩:=ha.1; subst k1; rw [k2]; exact ⟨v,rfl,k3⟩
   | aview b q lo n=>obtain ⟨cs,⟨v,k1,k3⟩,k2⟩:=ha.1; subst k1; rw [k2]; exact ⟨v,rfl,k3⟩
   | cut b k=>obtain ⟨cs,⟨v,k1,k3⟩,k2⟩:=ha.1; subst k1; rw [k2]; exact ⟨v,rfl,k3⟩
   | iface t v=>obtain ⟨cs,⟨ds,k1,k3⟩,k2⟩:=ha.1; subst k1; rw [k2]; exact ⟨ds,rfl,k3⟩
   | clo f v=>obtain ⟨cs,⟨us,k1,k3⟩,k2⟩:=ha.1; subst k1; rw [k2]; exact ⟨us,rfl,k3⟩
  exact ⟨[u],us,rfl,hu,e4I l us h.2 ha.2⟩
 | [],_::_,_,h=>h.elim
 | _::_,[],_,h=>h.elim
theorem f5O {p:PV} {cs:List Value} (h:g6L p=true) (hc:a1J c p cs):∃ u,cs=[u]∧VOk c p u:=by
 cases p with
 | tup _=>cases h
 | undef=>cases h
 | pair _ _=>cases h
 | val t x =>
  simp only [g6L,Bool.not_eq_true'] at h
  have hl:=a2U _ _ _ hc
  have hs:t.sz=1:=by cases t<;>first | rfl | cases h
  match cs,hl,hc with
  | [w],_,hc=>exact ⟨w,rfl,[w],hc,by simp only [a4R,h]; rfl⟩
  | [],hl,_=>simp [hs] at hl
  | _::_::_,hl,_=>simp [hs] at hl
 | nils=>have k1:=hc; simp only [a1J] at k1; subst k1; exact ⟨_,rfl,_,hc,rfl⟩
 | npt=>have k1:=hc; simp only [a1J] at k1; subst k1; exact ⟨_,rfl,_,hc,rfl⟩
 | fn f=>have k1:=hc; simp only [a1J] at k1; subst k1; exact ⟨_,rfl,_,hc,rfl⟩
 | ptr b q=>obtain ⟨v,k1,_⟩:=id hc; subst k1; exact ⟨v,rfl,_,hc,rfl⟩
 | bptr t x=>obtain ⟨ad,ds,k1,_⟩:=id hc; subst k1; exact ⟨_,rfl,_,hc,rfl⟩
 | whole b=>obtain ⟨v,k1,_⟩:=id hc; subst k1; exact ⟨v,rfl,_,hc,rfl⟩
 | row b lo n=>obtain ⟨v,k1,_⟩:=id hc; subst k1; exact ⟨v,rfl,_,hc,rfl⟩
 | aview b q lo n=>obtain ⟨v,k1,_⟩:=id hc; subst k1; exact ⟨v,rfl,_,hc,rfl⟩
 | cut b k=>obtain ⟨v,k1,_⟩:=id hc; subst k1; exact ⟨v,rfl,_,hc,rfl⟩
 | iface t v=>obtain ⟨ds,k1,_⟩:=id hc; subst k1; exact ⟨_,rfl,_,hc,rfl⟩
 | clo f v=>obtain ⟨us,k1,_⟩:=id hc; subst k1; exact ⟨_,rfl,_,hc,rfl⟩
theorem e9A:∀ (cap:PV) (us:List Value),g0P cap=true→a1J c cap us→All2 (VOk c) (e6G cap) us
 | .pair p r,us,h,hc=>by
  simp only [g0P,Bool.and_eq_true] at h
  obtain ⟨c1,c2,e,h1,h2⟩:=hc
  obtain ⟨u,e1,hu⟩:=f5O h.1 h1
  subst e1 e
  exact ⟨hu,e9A r c2 h.2 h2⟩
 | .val .nil _,us,_,hc=>by
  have:us=[]:=hc
  subst this; exact trivial
 | .val (.int _) _,_,h,_=>by cases h
 | .val .bool _,_,h,_=>by cases h
 | .val .str _,_,h,_=>by cases h
 | .val (.cons _ _) _,_,h,_=>by cases h
 | .val (.arr _ _) _,_,h,_=>by cases h
 | .val (.sl _) _,_,h,_=>by cases h
 | .val .opq _,_,h,_=>by cases h
 | .val .fnc _,_,h,_=>by cases h
 | .nils,_,h,_=>by cases h
 | .tup _,_,h,_=>by cases h
 | .ptr _ _,_,h,_=>by cases h
 | .bptr _ _,_,h,_=>by cases h
 | .npt,_,h,_=>by cases h
 | .whole _,_,h,_=>by cases h
 | .row _ _ _,_,h,_=>by cases h
 | .aview _ _ _ _,_,h,_=>by cases h
 | .fn _,_,h,_=>by cases h
 | .iface _ _,_,h,_=>by cases h
 | .clo _ _,_,h,_=>by cases h
 | .cut _ _,_,h,_=>by cases h
 | .undef,_,h,_=>by cases h
theorem e4Y (hM:Mem base G0 own0 c) {f:FuncId} {first caps:Array Operand} (ho:o.op=.makeFunc (.func f) first caps) (h0:first.size=0) {args:List PV} (h1:args.all g6L=true) (ha:All2 (VOk c) args ((first++caps).toList.map a.eval)) :
  a4W P base G0 own0 o a c (h1B f args) []:=by
 have hf:first=#[]:=Array.eq_empty_of_size_eq_zero h0
 subst hf
 simp only [Array.empty_append] at ha
 have hr:(execOp a.eval o).run P c.w=.ok (.value (.func (.func f) #[] (caps.toList.map a.eval).toArray)) c.w:=by
  have hc:caps.map a.eval=(caps.toList.map a.eval).toArray:=by apply Array.ext'; simp
  simp [execOp,ho,Instr.makeFunc,Sem.run_bind,Sem.run_pure,Result.andThen_ok,hc]
 refine a1S hM hr ?_
 cases args with
 | nil =>
  cases hc:caps.toList.map a.eval with
  | nil=>exact ⟨_,rfl,rfl⟩
  | cons u us=>rw [hc] at ha; exact ha.elim
 | cons p l=>exact ⟨_,⟨_,rfl,e4I (p::l) _ h1 ha⟩,rfl⟩
theorem d8L (hM:Mem base G0 own0 c) {f:FuncId} {first caps:Array Operand} (ho:o.op=.makeFunc (.func f) first caps):a4W P base G0 own0 o a c .undef []:=by
 have hr:(execOp a.eval o).run P c.w=.ok (.value (.func (.func f) (first.map a.eval) (caps.map a.eval))) c.w:=by
  simp [execOp,ho,Instr.makeFunc,Sem.run_bind,Sem.run_pure,Result.andThen_ok]
 exact a1S hM hr trivial
theorem e7U (hM:Mem base G0 own0 c) {x:PV} (hs:c3G x=false) {n:Nat} (hl:a9K c.H x=some n) {v:Value} (hv:VOk c x v):∃ ad cap,v=.slice ad n cap∧(n≠0→ad≠none):=by
 cases x with
 | nils =>
  simp only [a9K,Option.some.injEq] at hl
  subst hl
  obtain ⟨cs,h1,h2⟩:=hv
  simp only [a1J] at h1
  subst h1
  exact ⟨none,0,h2,fun h=>absurd rfl h⟩
 | val t y =>
  cases t with
  | sl t =>
   simp only [a9K,Option.some.injEq] at hl
   subst hl
   obtain ⟨cs,⟨ad,cap,rfl,hcap,hlim,hr⟩,hv⟩:=hv
   refine ⟨ad,cap,hv,fun hne=>?_⟩
   rcases hr with hr | ⟨q,rfl,_⟩
   ·
    have hr:(show List t.D from y)=[]:=hr
    exact absurd (by show List.length (show List t.D from y)=0; rw [hr]; rfl) hne
   ·
    simp
  | str=>cases hs
  | _=>simp [a9K] at hl
 | whole b =>
  obtain ⟨cs,⟨u,rfl,_,hw⟩,hv⟩:=hv
  have hB:=hM.blk b
  simp only [a9K] at hl
  unfold b2E at hw
  unfold BlkOk at hB
  cases hb:a0L c.H b with
  | row t l =>
   simp only [hb,Option.some.injEq,a0K] at hl hw hB
   subst hl
   obtain ⟨hlim,e,xs,hown,_⟩:=hB
   have hv:v=u:=hv
   rcases b1U hown with ⟨e1,e2,_⟩ | ⟨g,cap,cur,e1,e2,e3,_⟩
   ·
    exact ⟨none,0,by rw [hv,hw,e1,e2],fun h=>absurd e2 h⟩
   ·
    exact ⟨_,cap,by rw [hv,hw,e1],fun _=>by simp⟩
  | _=>simp [hb] at hl
 | row b lo m =>
  obtain ⟨cs,⟨u,rfl,_,hw⟩,hv⟩:=hv
  simp only [a9K] at hl
  unfold d0G at hw
  cases hb:a0L c.H b with
  | row t l =>
   simp only [hb,Option.some.injEq] at hl hw
   subst hl
   have hv:v=u:=hv
   obtain ⟨hle,⟨rfl,ad,cap,rfl⟩ | ⟨r,cap,cap',_,rfl,hn⟩⟩:=hw
   ·
    exact ⟨ad,cap,hv,fun h=>absurd rfl h⟩
   ·
    exact ⟨_,cap',hv,fun _=>by simp⟩
  | _=>simp [hb] at hl
 | aview b p lo m =>
  obtain ⟨cs,⟨u,rfl,_,hw⟩,hv⟩:=hv
  simp only [a9K] at hl
  unfold c3F at hw
  cases hb:a0L c.H b with
  | box t l =>
   simp only [hb,Option.some.injEq] at hl hw
   subst hl
   have hv:v=u:=hv
   obtain ⟨r,off,k,t',_,_,hle,hlim,⟨rfl,ad,cap,rfl⟩ | ⟨cap,rfl,hn,_⟩⟩:=hw
   ·
    exact ⟨ad,cap,hv,fun h=>absurd rfl h⟩
   ·
    exact ⟨_,cap,hv,fun _=>by simp⟩
  | _=>simp [hb] at hl
 | _=>simp [a9K] at hl
def e2P (op:BinOp) (b:Bool):Bool:=match op with | .eql=>b | _=>!b
theorem d5J {id e:TypeId} (hu:P.underlying id=some (.slice e)) (d:Nat) (ad:Option Addr) (n cap:Nat) (w:World):(Op.equalIn (d+1) id (.slice ad n cap) (.slice none 0 0)).run P w=.ok ad.isNone w:=by
 simp only [Op.equalIn,Sem.run_bind,run_underlying hu,Result.andThen_ok]
 cases ad<;>rfl
theorem f1R {op:BinOp} {id:TypeId} {e:TypeId} (hu:P.underlying id=some (.slice e)) {x y:Operand} {yt:TypeId} (ho:o.op=.binOp op id x y yt) (hop:op=.eql∨op=.neq) {ad:Option Addr} {n cap:Nat} (hx:a.eval x=.slice ad n cap) (hy:a.eval y=.slice none 0 0) (w:World) :
  (execOp a.eval o).run P w=.ok (.value (.bool (e2P op ad.isNone))) w:=by
 have he:(Op.equal id (.slice ad n cap) (.slice none 0 0)).run P w=.ok ad.isNone w:=by
  exact d5J hu 9999 ad n cap w
 rcases hop with rfl | rfl
 ·
  have:(binOp .eql id (.slice ad n cap) (.slice none 0 0)).run P w=.ok (.bool ad.isNone) w:=by
   show (do pure (.bool (← Op.equal id (.slice ad n cap) (.slice none 0 0))):Sem Value).run P w=_
   simp only [Sem.run_bind,he,Result.andThen_ok,Sem.run_pure]
  simp only [execOp,ho,hx,hy,Sem.run_bind]
  simp [eqGuard,this,e2P]
 ·
  have:(binOp .neq id (.slice ad n cap) (.slice none 0 0)).run P w=.ok (.bool (!ad.isNone)) w:=by
   show (do pure (.bool (!(← Op.equal id (.slice ad n cap) (.slice none 0 0)))):Sem Value).run P w=_
   simp only [Sem.run_bind,he,Result.andThen_ok,Sem.run_pure]
  simp only [execOp,ho,hx,hy,Sem.run_bind]
  simp [eqGuard,this,e2P]
theorem h0D {R:Type} {T:R→Prop} {fail:R} (hf:¬ T fail) (hM:Mem base G0 own0 c) {op:BinOp} {x:PV} {K:PV→R} (h:T (f4V fail op c.H x K)) {v:Value} (hv:VOk c x v) :
  (op=.eql∨op=.neq)∧∃ ad n cap,v=.slice ad n cap∧T (K (.val .bool (e2P op ad.isNone))):=by
 have hno:∀ {p:Prop},T fail→p:=fun h=>absurd h hf
 have brn_ok:∀ {b:Bool} {p q:R},T (brn b p q)→(b=true∧T p)∨(b=false∧T q):=by
  intro b p q h
  cases b
  ·
   exact .inr ⟨rfl,h⟩
  ·
   exact .inl ⟨rfl,h⟩
 have key:∀ (n:Nat) (r1 r2:Bool),c3G x=false→a9K c.H x=some n→T (brn (c6W n) (both fail (K (.val .bool r1)) (K (.val .bool r2))) (K (.val .bool r2)))→∃ ad n cap,v=.slice ad n cap∧T (K (.val .bool r2))∧(ad.isNone=true→T (K (.val .bool r1))):=by
  intro n r1 r2 hs hl h
  obtain ⟨ad,cap,hva,hne⟩:=e7U hM hs hl hv
  rcases brn_ok h with ⟨h0,h⟩ | ⟨h0,h⟩
  ·
   obtain ⟨k1,k2⟩:=g7K hf h
   exact ⟨ad,n,cap,hva,k2,fun _=>k1⟩
  ·
   refine ⟨ad,n,cap,hva,h,fun hn=>?_⟩
   have:n≠0:=fun e=>by subst e; cases h0
   have:=hne this
   cases ad with
   | none=>exact absurd rfl this
   | some _=>cases hn
 have nils:x=.nils→v=.slice none 0 0:=by
  rintro rfl
  obtain ⟨cs,h1,h2⟩:=hv
  simp only [a1J] at h1
  subst h1; exact h2
 unfold f4V at h
 cases op with
 | eql =>
  refine ⟨.inl rfl,?_⟩
  simp only at h
  split at h
  ·
   exact ⟨none,0,0,nils rfl,h⟩
  ·
   cases hs:c3G x with
   | true=>simp only [hs] at h; exact hno h
   | false =>
    simp only [hs] at h
    cases hl:a9K c.H x with
    | some n =>
     simp only [hl] at h
     obtain ⟨ad,n,cap,e,k1,k2⟩:=key n true false hs hl h
     refine ⟨ad,n,cap,e,?_⟩
     cases ad with
     | none=>exact k2 rfl
     | some _=>exact k1
    | none=>simp only [hl] at h; exact hno h
 | neq =>
  refine ⟨.inr rfl,?_⟩
  simp only at h
  split at h
  ·
   exact ⟨none,0,0,nils rfl,h⟩
  ·
   cases hs:c3G x with
   | true=>simp only [hs] at h; exact hno h
   | false =>
    simp only [hs] at h
    cases hl:a9K c.H x with
    | some n =>
     simp only [hl] at h
     obtain ⟨ad,n,cap,e,k1,k2⟩:=key n false true hs hl h
     refine ⟨ad,n,cap,e,?_⟩
     cases ad with
     | none=>exact k2 rfl
     | some _=>exact k1
    | none=>simp only [hl] at h; exact hno h
 | _=>exact hno h
theorem g7M {b k:Nat} {v:Value} (h:VOk c (.cut b k) v):VOk c (.row b 0 k) v:=by
 obtain ⟨cs,⟨u,e,h1,hw⟩,h2⟩:=h
 subst e
 have h2:v=u:=h2
 subst h2
 refine ⟨[v],⟨v,rfl,h1,?_⟩,rfl⟩
 unfold e0V at hw
 unfold d0G
 cases hb:a0L c.H b with
 | row t l =>
  simp only [hb] at hw ⊢
  obtain ⟨hk,ad,hv,hr⟩:=hw
  refine ⟨by omega,?_⟩
  rcases hr with rfl | ⟨r,cap,e1,rfl⟩
  ·
   exact .inl ⟨rfl,ad,0,hv⟩
  ·
   exact .inr ⟨r,cap,k,e1,by rw [hv,Nat.zero_mul],Nat.le_refl _⟩
 | dead=>trivial
 | unborn=>simp [hb] at hw
 | box t l=>simp [hb] at hw
theorem e2B (hM:Mem base G0 own0 c) {id:TypeId} {x hi mx:Operand} (ho:o.op=.slice id x none (some hi) (some mx)) {t:Ty} (ht:TOk P (.sl t) id) {b:Nat} {l:List t.D} (hbl:a0L c.H b=.row t l) {k k':IntKind} {i:I k} {j:I k'}
  (h1:inB' i l.length=true) (h2:i.val=j.val) (hx:VOk c (.whole b) (a.eval x)) (hh:VOk c (.val (.int k) i) (a.eval hi)) (hm:VOk c (.val (.int k') j) (a.eval mx)):a4W P base G0 own0 o a c (.cut b i.nat) []:=by
 obtain ⟨cs,⟨u,rfl,_,hw⟩,hv⟩:=hx
 have hB:=hM.blk b
 unfold b2E at hw
 unfold BlkOk at hB
 simp only [hbl] at hw hB
 obtain ⟨hlim,e,xs,hown,_⟩:=hB
 have hv:a.eval x=u:=hv
 have hh:=b6X hh
 have hm:=b6X hm
 obtain ⟨q1,q2,q3,q4⟩:=inB'_iff h1
 have hj:inB' j l.length=true:=by simp only [inB',Bool.and_eq_true,decide_eq_true_eq]; omega
 have hji:inB' i j.nat=true:=by have:=inB'_iff hj; simp only [inB',Bool.and_eq_true,decide_eq_true_eq]; omega
 have hjn:j.nat=i.nat:=by have:=inB'_iff hj; omega
 obtain ⟨_,e',hu,he⟩:=ht
 have run:∀ (ad:Option Addr) (cap:Nat),l.length≤cap→(Instr.sliceAt id (.slice ad l.length cap) none (some (.int k i.val)) (some (.int k' j.val))).run P c.w=.ok (.slice (if i.nat=0 then ad else ad.map (·.add 0)) i.nat i.nat) c.w:=by
  intro ad cap hcap
  have hb:(Instr.sliceBounds true l.length cap none (some (.int k i.val)) (some (.int k' j.val))).run P c.w=.ok (0,i.nat,i.nat) c.w:=by
   have r1:=c3P (P:=P) hj hcap .slice3Acap c.w
   have r2:=c3P (P:=P) hji (Nat.le_refl _) .slice3B c.w
   rw [hjn] at r2
   simp only [Instr.sliceBounds,Sem.run_bind,if_true,r1,Result.andThen_ok,r2,Sem.run_pure,hjn]
  unfold Instr.sliceAt
  rw [Sem.run_bind,run_underlying hu,Result.andThen_ok]
  unfold Instr.slice
  simp only [Sem.run_bind,run_underlying hu,Result.andThen_ok,hb,he.run_size,Sem.run_pure,Nat.sub_zero,Nat.zero_mul]
 have fin:∀ (ad:Option Addr) (cap:Nat),a.eval x=.slice ad l.length cap→l.length≤cap→(i.nat=0∨∃ r,ad=some ⟨r,0,none⟩∧c.ρ b=.slice (some ⟨r,0,none⟩) l.length cap)→a4W P base G0 own0 o a c (.cut b i.nat) []:=by
  intro ad cap hva hcap hr
  refine a1S hM (v:=.slice (if i.nat=0 then ad else ad.map (·.add 0)) i.nat i.nat) ?_ ⟨[_],⟨_,rfl,rfl,?_⟩,rfl⟩
  ·
   simp only [execOp,ho,hva,Option.map_none,Option.map_some,hh,hm,Sem.run_bind,run ad cap hcap,Result.andThen_ok,Sem.run_pure]
  ·
   unfold e0V
   simp only [hbl]
   refine ⟨q3,_,rfl,?_⟩
   rcases hr with h0 | ⟨r,rfl,hρ⟩
   ·
    exact .inl h0
   ·
    by_cases h0:i.nat=0
    ·
     exact .inl h0
    ·
     exact .inr ⟨r,cap,hρ,by rw [if_neg h0]; simp [add_lit]⟩
 rcases b1U hown with ⟨e1,e2,_⟩ | ⟨g,cap,cur,e1,e2,e3,_⟩
 ·
  exact fin none 0 (by rw [hv,hw,e1,e2]) (by omega) (.inl (by omega))
 ·
  exact fin _ cap (by rw [hv,hw,e1]) e3 (.inr ⟨g,rfl,e1⟩)
end
end Sym

/- Laws: slices of nothing told as rows of the call's own; append to a row cut short; methods of interfaces. -/
namespace Sym
open Go
theorem c5D:∀ (δ:List (Nat×Blk)) (H:List Blk) (j:Nat),(∀ p∈δ,p.1≠j)→a0L (a2I H δ) j=a0L H j
 | [],_,_,_=>rfl
 | (i,b)::δ,H,j,h=>by
  simp only [a2I]
  rw [c5D δ _ j fun p hp=>h p (by simp [hp]),a5R,if_neg]
  intro e
  exact h (i,b) (by simp) e.symm
theorem d0Z:∀ (t:Ty) (v:PV) (nb:Nat),∀ p∈(a3X t v nb).2,nb≤p.1∧p.1<nb+(a3X t v nb).2.length:=by
 intro t
 induction t with
 | cons a b iha ihb =>
  intro v nb p hp
  cases v with
  | pair x y =>
   simp only [a3X,List.mem_append,List.length_append] at hp ⊢
   rcases hp with hp | hp
   ·
    have:=iha x nb p hp; omega
   ·
    have:=ihb y _ p hp; omega
  | _=>simp [a3X] at hp
 | sl t _ =>
  intro v nb p hp
  cases v with
  | nils=>simp only [a3X,List.mem_singleton] at hp; subst hp; simp [a3X]
  | _=>simp [a3X] at hp
 | _=>intro v nb p hp; cases v<;>simp [a3X] at hp
theorem g1X:∀ (t:Ty) (v:PV) (nb:Nat),fits v t=true→fits (a3X t v nb).1 t=true:=by
 intro t
 induction t with
 | cons a b iha ihb =>
  intro v nb h
  cases v with
  | pair x y =>
   simp only [fits,Bool.and_eq_true] at h
   simp only [a3X,fits,Bool.and_eq_true]
   exact ⟨iha x _ h.1,ihb y _ h.2⟩
  | _=>exact h
 | sl t _ =>
  intro v nb h
  cases v with
  | nils=>rfl
  | _=>exact h
 | _=>intro v nb h; cases v<;>exact h
theorem f4M:∀ (t:Ty) (v:PV) (nb:Nat),a4R (a3X t v nb).1=a4R v:=by
 intro t v nb
 cases t<;>cases v<;>rfl
section
variable {P:Program} {base:World} {G0 own0:Nat→Prop} {o:Oper} {a:Act}
theorem e9I:∀ (t:Ty) (v:PV) (nb:Nat) (c:Cx) (cs:List Value),Mem base G0 own0 c→(∀ p∈(a3X t v nb).2,a0L c.H p.1=.unborn)→a1J c v cs →
  ∃ c',c'.w=c.w∧c'.H=a2I c.H (a3X t v nb).2∧Ext c c'∧Mem base G0 own0 c'∧a1J c' (a3X t v nb).1 cs:=by
 intro t
 have triv:∀ (v:PV) (c:Cx) (cs:List Value),Mem base G0 own0 c→a1J c v cs→∃ c',c'.w=c.w∧c'.H=a2I c.H []∧Ext c c'∧Mem base G0 own0 c'∧a1J c' v cs:=fun v c cs hM h=>⟨c,rfl,rfl,Ext.refl c,hM,h⟩
 induction t with
 | cons x y ihx ihy =>
  intro v nb c cs hM hn hc
  cases v with
  | pair p q =>
   obtain ⟨c1,c2,e,h1,h2⟩:=hc
   subst e
   simp only [a3X] at hn ⊢
   obtain ⟨d1,w1,H1,E1,M1,k1⟩:=ihx p nb c c1 hM (fun r hr=>hn r (by simp [hr])) h1
   obtain ⟨d2,w2,H2,E2,M2,k2⟩:=ihy q (nb+(a3X x p nb).2.length) d1 c2 M1 (fun r hr=>by
    have hk:=d0Z y q _ r hr
    rw [H1,c5D _ _ _ fun p' hp'=>?_]
    ·
     exact hn r (by simp [hr])
    ·
     have:=d0Z x p nb p' hp'; omega) (c1I E1 _ _ h2)
   exact ⟨d2,w2.trans w1,by rw [H2,H1,a8G],E1.trans E2,M2,c1,c2,rfl,c1I E2 _ _ k1,k2⟩
  | _=>exact triv _ c cs hM hc
 | sl t _ =>
  intro v nb c cs hM hn hc
  cases v with
  | nils =>
   have hc:cs=[.slice none 0 0]:=hc
   subst hc
   obtain ⟨c',h1,h2,h3,h4,h5⟩:=mem_row hM (hn (nb,.row t []) (List.mem_singleton.2 rfl)) (w':=c.w) (hd:=.slice none 0 0) (t:=t) (l:=[]) (e:=0) (xs:=[]) none ⟨rfl,rfl,rfl,Nat.le_refl _,fun _ _ _=>rfl⟩
    ⟨by simp,.inl ⟨rfl,rfl⟩⟩ rfl (Nat.zero_le _) none (fun i h=>by cases h) (fun r h=>by cases h) (fun r h=>by cases h)
   refine ⟨c',h1,h2,h3,h4,?_⟩
   obtain ⟨cs',k1,k2⟩:=h5
   obtain ⟨u,e,k3⟩:=k1
   subst e
   have k2:(Value.slice none 0 0)=u:=k2
   subst k2
   exact ⟨_,rfl,k3⟩
  | _=>exact triv _ c cs hM hc
 | _=>intro v nb c cs hM hn hc; cases v<;>exact triv _ c cs hM hc
variable {c:Cx}
theorem f5J (t:Ty) {pv:PV} {nb:Nat} (hp:c4Y pv=true) (hn:∀ p∈(a3X t pv nb).2,a0L c.H p.1=.unborn) (h:a4W P base G0 own0 o a c pv []):a4W P base G0 own0 o a c (a3X t pv nb).1 (a3X t pv nb).2:=by
 intro K Q hK
 refine h K Q fun v c' hE hM' hH hv=>?_
 obtain ⟨cs,k1,k2⟩:=plain_cells' hv hp
 obtain ⟨c2,g1,g2,g3,g4,g5⟩:=e9I t pv nb c' cs hM' (by rw [show c'.H=c.H from hH]; exact hn) k1
 have:=hK v c2 (hE.trans g3) g4 (by rw [g2,hH]; rfl) (by rw [k2,← f4M t pv nb]; exact d6L g5)
 rw [g1] at this
 exact this
theorem e1S (hM:Mem base G0 own0 c) {id:TypeId} (ho:o.op=.alloc id) {t:Ty} (ht:TI P id t) (hz:t.zOk=true) (hq:t≠.opq) {nb:Nat} (hn:∀ p∈(a3X t (b5C t) nb).2,a0L c.H p.1=.unborn) (hn2:a0L c.H (nb+(a3X t (b5C t) nb).2.length)=.unborn) :
  a4W P base G0 own0 o a c (.ptr (nb+(a3X t (b5C t) nb).2.length) []) ((a3X t (b5C t) nb).2++[(nb+(a3X t (b5C t) nb).2.length,.box t (a3X t (b5C t) nb).1)]):=by
 obtain ⟨c1,g1,g2,g3,g4,g5⟩:=e9I t (b5C t) nb c _ hM hn (c6V (c:=c) t hz).1
 have hn3:a0L c1.H (nb+(a3X t (b5C t) nb).2.length)=.unborn:=by
  rw [g2,c5D _ _ _ fun p hp=>?_]
  ·
   exact hn2
  ·
   have:=d0Z _ _ _ p hp; omega
 obtain ⟨c',h1,h2,h3,h4,h5⟩:=e6E g4 hn3 id g5 (g1X _ _ _ (c6V (c:=c) t hz).2)
 rw [g1] at h1 h5
 refine a6L (c':=c') ?_ (g3.trans h3) h4 (by rw [h2,g2,a8G]) h5
 rw [h1]
 have:=a9B (a4B t) (b3W t)
 have hr:=ht.run_zero hq c.w
 simp [execOp,ho,Instr.alloc,hr,newVar,newRow,mkZ,this]
theorem e0U (hM:Mem base G0 own0 c) {id:TypeId} {x:Operand} {hi:Option Operand} (ho:o.op=.slice id x none hi none) {t:Ty} (ht:TOk P (.sl t) id) {bs:List PV} (ha:All2 (VOk c) bs (([]:List Value)++hi.toList.map a.eval))
  {b:Nat} {l:List t.D} (hbl:a0L c.H b=.row t l) {n:Nat} {b1 b2:Bool×Nat} (hb:a7O (a9K c.H (.whole b)) false hi.isSome bs=some (n,b1,b2)) (h1:b1.1=true) (h2:b2.1=true) (hx:VOk c (.whole b) (a.eval x)) {nb:Nat} (hn:a0L c.H nb=.unborn) :
  a4W P base G0 own0 o a c (.whole nb) [(b,.dead),(nb,.row t (a3T l 0 b2.2))]:=by
 obtain ⟨cs,⟨u,rfl,_,hw⟩,hv⟩:=hx
 have hB:=hM.blk b
 unfold b2E at hw
 unfold BlkOk at hB
 simp only [hbl] at hw hB
 obtain ⟨hlim,e,xs,hown,hxs⟩:=hB
 have hl0:=c8A (fun x cs=>a2U t x cs) l xs hxs
 have hbn:=(a5S (P:=P) none hi bs ha hb h1 h2 true n (Nat.le_refl _) c.w).2.2.2
 simp only [a9K,hbl,Option.some.injEq,a0K] at hbn
 have hv:a.eval x=u:=hv
 have hb10:b1.2=0:=by
  unfold a7O at hb
  split at hb
  ·
   cases hb
  ·
   cases hhi:hi.isSome<;>rw [hhi] at hb<;>(split at hb<;>first | (simp only [Option.some.injEq,Prod.mk.injEq] at hb; obtain ⟨_,rfl,_⟩:=hb; rfl) | contradiction | (exact absurd hb (by simp)))
 have hbnb:b≠nb:=by rintro rfl; rw [hbl] at hn; cases hn
 have hsub:a3T l 0 b2.2=l.take b2.2:=by simp [a3T]
 have fin:∀ (ad:Option Addr) (cap:Nat),a.eval x=.slice ad l.length cap→c.ρ b=.slice ad l.length cap→l.length≤cap→((ad=none∧cap=0)∨∃ g cur,ad=some ⟨g,0,none⟩∧c.w.heap[g]?=some (.cells cur e (0,0))∧cap≤maxLen∧cur.size=cap*t.sz∧cur.toList.take (l.length*t.sz)=xs)→a4W P base G0 own0 o a c (.whole nb) [(b,.dead),(nb,.row t (a3T l 0 b2.2))]:=by
  intro ad cap hva hρ hcap hr
  obtain ⟨hr1,hle,hle',_⟩:=a5S (P:=P) none hi bs ha hb h1 h2 true cap (by omega) c.w
  rw [hb10] at hr1
  have hrun:=b5D ht ad l.length cap 0 b2.2 none (hi.map a.eval) c.w (by rw [hbn]; exact hr1)
  have hval:(Value.slice (if cap=0 then ad else ad.map (·.add (0*t.sz))) (b2.2-0) (cap-0))=.slice ad b2.2 cap:=by
   rcases hr with ⟨rfl,rfl⟩ | ⟨g,cur,rfl,_⟩
   ·
    rfl
   ·
    by_cases h0:cap=0
    ·
     rw [if_pos h0]; rfl
    ·
     rw [if_neg h0,Nat.zero_mul]; simp [add_lit]
  rw [hval] at hrun
  have hlen:(l.take b2.2).length=b2.2:=by rw [List.length_take]; omega
  have hxt:c1Z (Enc c.w c.G t) (l.take b2.2) (xs.take (b2.2*t.sz)):=by
   have:∀ (n:Nat) (l:List t.D) (xs:List Value),c1Z (Enc c.w c.G t) l xs→c1Z (Enc c.w c.G t) (l.take n) (xs.take (n*t.sz)):=by
    intro n
    induction n with
    | zero=>intro l xs _; simp [c1Z]
    | succ n ih =>
     intro l xs h
     cases l with
     | nil=>simp only [c1Z] at h; subst h; simp [c1Z]
     | cons y l =>
      obtain ⟨c1,c2,rfl,k1,k2⟩:=h
      have hs:=a2U _ _ _ k1
      refine ⟨c1,c2.take (n*t.sz),?_,k1,ih l c2 k2⟩
      rw [Nat.succ_mul,List.take_append,List.take_of_length_le (by omega),show n*t.sz+t.sz-c1.length=n*t.sz by omega]
   exact this _ l xs hxs
  have hown':c.w.ownsRow 0 e t.sz (.slice ad b2.2 cap) (l.take b2.2).length (xs.take (b2.2*t.sz)):=by
   rw [hlen]
   refine ⟨by rw [List.length_take,hl0]; exact Nat.min_eq_left (Nat.mul_le_mul_right _ (by omega)),?_⟩
   rcases hr with ⟨rfl,rfl⟩ | ⟨g,cur,rfl,k1,k2,k3,k4⟩
   ·
    left; have:b2.2=0:=by omega
    rw [this]; exact ⟨rfl,rfl⟩
   ·
    right
    refine ⟨g,cap,cur,rfl,Nat.zero_le _,k1,by omega,k2,k3,?_⟩
    rw [← k4,List.take_take,Nat.min_eq_left (Nat.mul_le_mul_right _ (by omega))]
  obtain ⟨c',q1,q2,q3,q4,q5⟩:=mem_row hM hn (w':=c.w) (hd:=.slice ad b2.2 cap) (t:=t) (l:=l.take b2.2) none ⟨rfl,rfl,rfl,Nat.le_refl _,fun _ _ _=>rfl⟩ hown' hxt (by omega) (some b)
   (fun i h=>by cases h; exact ⟨by rw [hbl]; rfl,hbnb⟩) (fun r h=>by cases h) (fun r h=>.inr ⟨b,rfl,by
    rw [hρ]
    rcases hr with ⟨rfl,rfl⟩ | ⟨g,cur,rfl,_⟩
    ·
     cases h
    ·
     exact h⟩)
  rw [hsub]
  refine a6L (c':=c') ?_ q3 q4 q2 q5
  rw [q1,b5V ho,hva]
  simp only [Sem.run_bind]
  rw [show (none:Option Operand).map a.eval=none from rfl,hrun]
  rfl
 rcases b1U hown with ⟨e1,e2,_⟩ | ⟨g,cap,cur,e1,e2,e3,e4,e5,e6,_⟩
 ·
  exact fin none 0 (by rw [hv,hw,e1,e2]) (by rw [e1,e2]) (by omega) (.inl ⟨rfl,rfl⟩)
 ·
  exact fin _ cap (by rw [hv,hw,e1]) e1 e3 (.inr ⟨g,cur,rfl,e2,e4,e5,e6⟩)
theorem d6M (hM:Mem base G0 own0 c) {k:Call} {x y:Operand} (ho:o.op=.call k) (hk:k.callee=.builtin .append) (hargs:k.args=#[x,y]) {id:TypeId} (hat:k.argTypes=#[id,id]) {t:Ty} (ht:TI P id (.sl t))
  {py:PV} {ys:List t.D} {lent:List Nat} {b n:Nat} {l:List t.D} (hb:a0L c.H b=.row t l) (hx:VOk c (.cut b n) (a.eval x)) (hy:VOk c py (a.eval y)) (hv:a4E c.H (.sl t) py=some (ys,lent)) (h0:ys.length=0) :
  a4W P base G0 own0 o a c (.row b 0 n) []:=by
 obtain ⟨e,hu,he,i,hi,hby,hz⟩:=ht.elem t rfl
 obtain ⟨us,_,hvu,hen⟩:=c7I hM hy hv
 obtain ⟨ad,cap,news,rfl,hnl,hne1,hfc⟩:=b8K (P:=P) hen
 have hyv:a.eval y=.slice ad ys.length cap:=hvu
 have hr:=g7M hx
 obtain ⟨cs,⟨v,rfl,_,hw⟩,hxv⟩:=hx
 have hB:=hM.blk b
 unfold BlkOk at hB
 unfold e0V at hw
 simp only [hb] at hw hB
 obtain ⟨_,e0,xs,hown0,_⟩:=hB
 obtain ⟨hnl2,ad2,hv3,had⟩:=hw
 have hxv:a.eval x=.slice ad2 n n:=by rw [← hv3]; exact hxv
 have hs:i.size=t.sz:=by have:=he.size; simp [Program.cellsOf,hi] at this; exact this
 have hnews:news=[]:=List.eq_nil_of_length_eq_zero (by rw [hnl,h0]; simp)
 subst hnews
 have hf:=hfc c.w (fun _=>rfl)
 rw [h0] at hf hyv
 refine a1S hM (v:=a.eval x) ?_ hr
 rw [c1D ho hk hargs,hat,hxv,hyv]
 cases ad2 with
 | none=>simp [Builtin.append_,run_underlying hu,Go.sizeOf,typeInfo,hi,hs,d4V,hf]
 | some q=>simp [Builtin.append_,run_underlying hu,Go.sizeOf,typeInfo,hi,hs,d4V,hf,storeCells]
theorem d8G (hM:Mem base G0 own0 c) {k:Call} {x y:Operand} (ho:o.op=.call k) (hk:k.callee=.builtin .append) (hargs:k.args=#[x,y]) {id:TypeId} (hat:k.argTypes=#[id,id]) {t:Ty} (ht:TI P id (.sl t)) (hq:t.noOpq=true) (hsz:1≤t.sz)
  {py:PV} {ys:List t.D} {lent:List Nat} {b n:Nat} {l:List t.D} (hb:a0L c.H b=.row t l) (hnb:b ∉ lent) (hx:VOk c (.cut b n) (a.eval x)) (hy:VOk c py (a.eval y)) (hv:a4E c.H (.sl t) py=some (ys,lent)) (hne:ys.length≠0) (hfl:a1D (l.take n++ys).length=true) {nb:Nat} (hn:a0L c.H nb=.unborn) :
  a4W P base G0 own0 o a c (.whole nb) (kill (d3O t lent)++[(nb,.row t (l.take n++ys))]):=by
 obtain ⟨e,hu,he,i,hi,hby,hz⟩:=ht.elem t rfl
 have hz:=hz.resolve_right (by rintro rfl; cases hq)
 obtain ⟨us,_,hvu,hen⟩:=c7I hM hy hv
 obtain ⟨ad,cap,news,rfl,hnl,hne1,hfc⟩:=b8K (P:=P) hen
 have hyv:a.eval y=.slice ad ys.length cap:=hvu
 obtain ⟨c1,h1,h2,h3,h4,h5,h6,h7⟩:=g6E hM t lent (b4C _ _ _ _ _ hv)
 have hx1:=d5F h4 hx
 have hb1:=(h6 b hnb).trans hb
 obtain ⟨cs,⟨v,rfl,_,hw⟩,hxv2⟩:=hx1
 unfold e0V at hw
 simp only [hb1] at hw
 obtain ⟨hnl2,ad2,hv3,had⟩:=hw
 have hxv:a.eval x=.slice ad2 n n:=by rw [← hv3]; exact hxv2
 have hB:=h5.blk b
 unfold BlkOk at hB
 simp only [hb1] at hB
 obtain ⟨_,e0,xs,hown0,hxs⟩:=hB
 obtain ⟨olds,hol0⟩:∃ olds,olds=xs.take (n*t.sz):=⟨_,rfl⟩
 have hol:olds.length=n*t.sz:=by rw [hol0,List.length_take,hown0.1]; exact Nat.min_eq_left (Nat.mul_le_mul_right _ (by omega))
 have hofc:(Builtin.firstCells t.sz n (.slice ad2 n n)).run P c1.w.drew=.ok olds.toArray c1.w.drew:=by
  rcases Nat.eq_zero_or_pos n with h0 | h0
  ·
   subst h0
   have:olds=[]:=List.eq_nil_of_length_eq_zero (by rw [hol]; simp)
   subst this
   cases ad2 with
   | none=>simp [Builtin.firstCells]
   | some q=>simp [Builtin.firstCells,loadCells,loadCellsFrom]
  ·
   rcases had with h | ⟨r,cap0,e1,e2⟩
   ·
    omega
   ·
    subst e2
    rcases b1U hown0 with ⟨e3,_⟩ | ⟨g,cap1,cur,e3,e4,e5,e6,e7,e8,e9⟩
    ·
     rw [e3] at e1; cases e1
    ·
     rw [e3] at e1
     injection e1 with e1 _ _
     injection e1 with e1
     injection e1 with e1 _ _
     subst e1
     refine run_firstCells_some (P:=P) c1.w.drew t.sz n ⟨g,0,none⟩ n n olds hol fun j v hj=>?_
     rw [hol0,List.getElem?_take] at hj
     split at hj
     ·
      rw [add_lit]
      have:=e9 j v hj
      rw [World.cell?_drew]
      simp only [World.cell?,e4,Option.isSome_none,Bool.false_eq_true,if_false]
      exact this
     ·
      cases hj
 have hxt:c1Z (Enc c1.w c1.G t) (l.take n) olds:=by
  have:∀ (n:Nat) (l:List t.D) (xs:List Value),c1Z (Enc c1.w c1.G t) l xs→c1Z (Enc c1.w c1.G t) (l.take n) (xs.take (n*t.sz)):=by
   intro n
   induction n with
   | zero=>intro l xs _; simp [c1Z]
   | succ n ih =>
    intro l xs h
    cases l with
    | nil=>simp only [c1Z] at h; subst h; simp [c1Z]
    | cons y l =>
     obtain ⟨c1',c2',rfl,k1,k2⟩:=h
     have hs:=a2U _ _ _ k1
     refine ⟨c1',c2'.take (n*t.sz),?_,k1,ih l c2' k2⟩
     rw [Nat.succ_mul,List.take_append,List.take_of_length_le (by omega),show n*t.sz+t.sz-c1'.length=n*t.sz by omega]
  rw [hol0]
  exact this _ l xs hxs
 have hlim:n+ys.length≤1073741824:=by have:=e7Z hfl (Nat.le_refl _); rw [List.length_append,List.length_take,Nat.min_eq_left hnl2] at this; exact this
 have hs:i.size=t.sz:=by have:=he.size; simp [Program.cellsOf,hi] at this; exact this
 have hzc:(mkZ t).cells=(a6B t).toArray:=a9B (a4B t) (b3W t)
 have hbytes:(n+ys.length)*i.bytes≤140737488355328:=Nat.le_trans (Nat.mul_le_mul hlim hby) (by decide)
 have hrun:=run_append_grow' (P:=P) c1.w id o.type e i (mkZ t) hu hi hz ad2 n n olds (by rw [hs]; exact hofc) (.slice ad ys.length cap) ys.length rfl news (by rw [hs]; exact hfc c1.w.drew (fun a=>by rw [h1]; rfl)) (by omega) (by omega) (growslice_fits (by omega) hbytes)
 have hge:=grownCap_ge c1.w (n+ys.length) n e
 have hcm:grownCap c1.w (n+ys.length) n e≤maxLen:=grownCap_le_maxLen c1.w (n+ys.length) n e (by simp only [maxLen]; omega)
 have hnl':nb ∉ lent:=fun h=>by have:=b4C _ _ _ _ _ hv nb h; rw [hn] at this; cases this
 have hlen2:(olds++news).length=(n+ys.length)*t.sz:=by rw [List.length_append,hol,hnl,Nat.add_mul]
 obtain ⟨c2,k1,k2,k3,k4,k5⟩:=mem_row h5 ((h6 nb hnl').trans hn) (w':=c1.w.drew.alloc (.cells (olds++news++(Builtin.zeroCells (mkZ t).cells (grownCap c1.w (n+ys.length) n e-(n+ys.length))).toList).toArray e)) (t:=t) (l:=l.take n++ys) (e:=e) (xs:=olds++news) none ⟨rfl,rfl,rfl,by simp,fun k hk _=>d1E c1.w.drew _ hk⟩
  (hd:=.slice (some ⟨c1.w.heap.size,0,none⟩) (n+ys.length) (grownCap c1.w (n+ys.length) n e))
  (by
   rw [List.length_append,List.length_take,Nat.min_eq_left hnl2]
   refine ⟨hlen2,.inr ⟨c1.w.heap.size,_,_,rfl,Nat.zero_le _,d0T c1.w.drew _,hge,hcm,?_,?_⟩⟩
   ·
    simp only [List.size_toArray,List.length_append,Array.length_toList,size_zeroCells,hzc,a4B]
    rw [hol,hnl,← Nat.add_mul,← Nat.add_mul]
    congr 1
    omega
   ·
    simp only [List.append_assoc]
    rw [← List.append_assoc,← hlen2]
    exact List.take_left)
  (e1U _ _ _ _ hxt (b3L (fun x cs=>h7 x cs) ys news hne1)) (by rw [List.length_append,List.length_take]; simp only [LIM]; omega) none (fun i h=>by cases h) (fun r h=>by cases h)
  (fun r h=>by simp only [a6C,Option.some.injEq] at h; left; omega)
 refine a6L (c':=c2) ?_ (h4.trans k3) k4 (by rw [k2,h2,← a8G]; rfl) k5
 rw [k1,c1D ho hk hargs,hat,hxv,hyv,← h1]
 simp only [Sem.run_bind,hrun,Result.andThen_ok,Sem.run_pure]
end
end Sym

/- Calls of closures and of interfaces' methods: which function, with which arguments. -/
namespace Sym
open Go
def d3I (P:Program) (t:TypeId) (name:String) (f:FuncId) (d:Option Nat):Prop :=
 ∃ i m e,P.info? t=some i∧i.methods.find? (fun x=>x.name == name)=some m∧m.path=#[]∧P.underlying t=some (.pointer e) ∧
  match d with
  | none=>m.func=some (f,true)
  | some e'=>m.func=some (f,false)∧e'=e
def f6J (P:Program) (t:TypeId) (name:String) (f:FuncId) (d:Option Nat):Bool :=
 match P.info? t,P.underlying t with
 | some i,some (.pointer e)=>match i.methods.find? (fun x=>x.name == name) with
  | some m=>match m.path.toList,m.func,d with
   | [],some (g,true),none=>Nat.beq g f
   | [],some (g,false),some e'=>Nat.beq g f&&Nat.beq e' e
   | _,_,_=>false
  | none=>false
 | _,_=>false
theorem g8K {P:Program} {t:TypeId} {name:String} {f:FuncId} {d:Option Nat} (h:f6J P t name f d=true):d3I P t name f d:=by
 unfold f6J at h
 split at h
 ·
  rename_i i e hi hu
  split at h
  ·
   rename_i m hm
   split at h
   ·
    rename_i g hp hf
    have h:=Nat.eq_of_beq_eq_true h
    subst h
    exact ⟨i,m,e,hi,hm,by apply Array.ext'; simpa using hp,hu,hf⟩
   ·
    rename_i g e' hp hf
    simp only [Bool.and_eq_true] at h
    have h1:=Nat.eq_of_beq_eq_true h.1
    have h2:=Nat.eq_of_beq_eq_true h.2
    subst h1
    exact ⟨i,m,e,hi,hm,by apply Array.ext'; simpa using hp,hu,hf,h2⟩
   ·
    cases h
  ·
   cases h
 ·
  cases h
section
variable {P:Program} {base:World} {G0 own0:Nat→Prop} {o:Oper} {a:Act} {c:Cx}
theorem e3U (P:Program):∃ n,P.types.size+Made.depth=n+1:=⟨P.types.size+99,rfl⟩
theorem e9E {t:TypeId} {i:TypeInfo} (h:P.info? t=some i) (w:World):(typeInfo t).run P w=.ok i w:=by
 simp [typeInfo,h]
theorem d7S {t:TypeId} {name:String} {f:FuncId} (h:d3I P t name f none) (v:Value) (w:World):(method (P.types.size+Made.depth) t v name).run P w=.ok (f,v) w:=by
 obtain ⟨n,hn⟩:=e3U P
 obtain ⟨i,m,e,hi,hm,hp,hu,hf⟩:=h
 rw [hn]
 simp only [method,Sem.run_bind,e9E hi,Result.andThen_ok,hm,hp,follow,Sem.run_pure,hf,receiverAt,run_underlying hu,Place.get]
theorem d8J {t e:TypeId} {name:String} {f:FuncId} (h:d3I P t name f (some e)) (ad:Addr) (u:Value) (w:World) (hl:(loadVar e ad).run P w=.ok u w):(method (P.types.size+Made.depth) t (.pointer (some ad)) name).run P w=.ok (f,u) w:=by
 obtain ⟨n,hn⟩:=e3U P
 obtain ⟨i,m,e',hi,hm,hp,hu,hf,rfl⟩:=h
 rw [hn]
 have hw : ∀ s, (Builtin.ssaWrapNilChk_ #[t] t #[.pointer (some ad), strVal "", strVal s]).run P w = .ok (.pointer (some ad)) w := fun s => rfl
 simp only [method,Sem.run_bind,e9E hi,Result.andThen_ok,hm,hp,follow,Sem.run_pure,hf,receiverAt,run_underlying hu,Place.get,Array.isEmpty_empty,if_true,hw,asAddr,hl]
theorem e0P {k:Call} (ho:o.op=.call k) {fo:Operand} (hk:k.callee=.value fo) {f:FuncId} {us:List Value} (hf:a.eval fo=.func (.func f) #[] us.toArray) (w:World):(execOp a.eval o).run P w=(callFunc f (k.args.toList.map a.eval++us).toArray).run P w:=by
 have:k.args.map a.eval++us.toArray=(k.args.toList.map a.eval++us).toArray:=by apply Array.ext'; simp
 simp only [execOp,ho,resolve,hk,hf,Deferred.ofValue,Sem.run_bind,Sem.run_pure,Result.andThen_ok,invoke,Array.empty_append,this]
theorem d7H {k:Call} (ho:o.op=.call k) {r:Operand} {name:String} (hk:k.callee=.invoke r name) {t:TypeId} {v u:Value} (hr:a.eval r=.iface t v) {f:FuncId} (w:World) (hm:(method (P.types.size+Made.depth) t v name).run P w=.ok (f,u) w) :
  (execOp a.eval o).run P w=(callFunc f (u::k.args.toList.map a.eval).toArray).run P w:=by
 have h1:(#[a.eval r]++k.args.map a.eval)[0]?=some (a.eval r):=by rw [Array.getElem?_append_left (by simp)]; rfl
 have h2:(#[a.eval r]++k.args.map a.eval).extract 1 (#[a.eval r]++k.args.map a.eval).size=k.args.map a.eval:=by
  apply Array.ext'
  simp
  exact List.take_of_length_le (by simp)
 have h3:#[u]++k.args.map a.eval=(u::k.args.toList.map a.eval).toArray:=by apply Array.ext'; simp
 have hp:(program:Sem Program).run P w=.ok P w:=rfl
 rw [hr] at h1 h2
 simp only [execOp,ho,resolve,hk,hr,Sem.run_bind,Sem.run_pure,Result.andThen_ok,invoke,h1,h2,callMethod,hp,hm,h3]
theorem g5P (hM:Mem base G0 own0 c) {id:TypeId} {t s:Ty} (ht:TOk P t id) {b:Nat} {p:List Step} {v u:PV} {x:Value} (hx:VOk c (.ptr b p) x)
  (hb:a0L c.H b=.box s v) (hti:e3Z s p t=true) (hg:b1J v p=some u):∃ ad v',x=.pointer (some ad)∧(loadVar id ad).run P c.w=.ok v' c.w∧fits u t=true∧∃ cs,a1J c u cs∧v'=mkV (a4R u) cs:=by
 have hp:=d8I hx
 have hB:=hM.blk b
 unfold PtrOk at hp
 unfold BlkOk at hB
 simp only [hb] at hp hB
 obtain ⟨r,off,u',hρ,hoff,hv⟩:=hp
 obtain ⟨r',cs,e,hρ',hh,hc,hfs⟩:=hB
 rw [hρ'] at hρ
 simp only [Value.pointer.injEq,Option.some.injEq,Addr.mk.injEq] at hρ
 obtain ⟨rfl,_,_⟩:=hρ
 have:=c0T hti hoff
 subst this
 obtain ⟨hf,hcu⟩:=c0W v s cs p off u' u hc hfs hoff hg
 have hl:=a6I _ _ _ hcu hf
 exact ⟨_,_,hv,c1M ht c.w r' off _ hl (d2S hh),hf,_,hcu,by rw [c8I hf]⟩
theorem d5B {X Y:Type} {R:X→Y→Prop}:∀ {l:List X} {r:List Y} {l':List X} {r':List Y},All2 R l r→All2 R l' r'→All2 R (l++l') (r++r')
 | [],[],_,_,_,h=>h
 | _::_,_::_,_,_,h,h'=>⟨h.1,d5B h.2 h'⟩
 | [],_::_,_,_,h,_=>h.elim
 | _::_,[],_,_,h,_=>h.elim
theorem e5G {E:Env} (hT:∀ id t,E.ty id=some t→TOk E.P t id) (hmeth:∀ t name f d,E.meth t name=some (f,d)→d3I E.P t name f d) (hM:Mem base G0 own0 c) {f:FuncId} {vs args:List PV} (h:target E c.H o args=some (f,vs)) (ha:All2 (VOk c) args (o.op.operands.toList.map a.eval)) :
  ∃ us,All2 (VOk c) vs us∧(execOp a.eval o).run E.P c.w=(callFunc f us.toArray).run E.P c.w:=by
 unfold target at h
 split at h
 ·
  rename_i k hop
  split at h
  ·
   rename_i fo hk
   split at h
   ·
    rename_i g ws
    simp only [Option.some.injEq,Prod.mk.injEq] at h
    obtain ⟨rfl,rfl⟩:=h
    have ha':All2 (VOk c) (.fn g::ws) (a.eval fo::k.args.toList.map a.eval):=by
     rw [hop] at ha
     simp only [Op.operands,Call.operands,hk] at ha
     simpa using ha
    have hfv:a.eval fo=.func (.func g) #[] ([]:List Value).toArray:=by
     obtain ⟨cs,h1,h2⟩:=ha'.1
     simp only [a1J] at h1
     subst h1; exact h2
    refine ⟨_,ha'.2,?_⟩
    have:=e0P (P:=E.P) hop hk hfv c.w
    simpa using this
   ·
    rename_i g cap ws
    split at h
    ·
     rename_i hcap
     simp only [Option.some.injEq,Prod.mk.injEq] at h
     obtain ⟨rfl,rfl⟩:=h
     have ha':All2 (VOk c) (.clo g cap::ws) (a.eval fo::k.args.toList.map a.eval):=by
      rw [hop] at ha
      simp only [Op.operands,Call.operands,hk] at ha
      simpa using ha
     obtain ⟨cs,⟨us,e,h1⟩,h2⟩:=ha'.1
     subst e
     have h2:a.eval fo=.func (.func g) #[] us.toArray:=h2
     exact ⟨_,d5B ha'.2 (e9A cap us hcap h1),e0P hop hk h2 c.w⟩
    ·
     cases h
   ·
    cases h
  ·
   rename_i r name hk
   split at h
   ·
    rename_i t v ws
    have ha':All2 (VOk c) (.iface t v::ws) (a.eval r::k.args.toList.map a.eval):=by
     rw [hop] at ha
     simp only [Op.operands,Call.operands,hk] at ha
     simpa using ha
    obtain ⟨cs,⟨ds,e,h1⟩,h2⟩:=ha'.1
    subst e
    have h2:a.eval r=.iface t (mkV (a4R v) ds):=h2
    split at h
    ·
     rename_i g hm
     simp only [Option.some.injEq,Prod.mk.injEq] at h
     obtain ⟨rfl,rfl⟩:=h
     exact ⟨mkV (a4R v) ds::k.args.toList.map a.eval,⟨d6L h1,ha'.2⟩,d7H hop hk h2 c.w (d7S (hmeth _ _ _ _ hm) _ c.w)⟩
    ·
     rename_i g e hm
     cases v with
     | ptr b p =>
      split at h
      ·
       rename_i u b' p' hu hbp
       injection hbp with e1 e2
       subst e1 e2
       split at h
       ·
        rename_i s x hb
        split at h
        ·
         rename_i y hti hg
         simp only [Option.some.injEq,Prod.mk.injEq] at h
         obtain ⟨rfl,rfl⟩:=h
         obtain ⟨ad,v',e1,e2,_,cs',e3,e4⟩:=g5P (P:=E.P) hM (hT _ _ hu) (d6L h1) hb hti hg
         rw [e1] at h2
         exact ⟨v'::k.args.toList.map a.eval,⟨by rw [e4]; exact d6L e3,ha'.2⟩,d7H hop hk h2 c.w (d8J (hmeth _ _ _ _ hm) ad v' c.w e2)⟩
        ·
         cases h
       ·
        cases h
      ·
       cases h
     | _=>split at h<;>first | cases h | (rename_i hx; cases hx)
    ·
     cases h
   ·
    cases h
  ·
   cases h
 ·
  cases h
theorem g1K {E:Env} (hT:∀ id t,E.ty id=some t→TOk E.P t id) (hmeth:∀ t name f d,E.meth t name=some (f,d)→d3I E.P t name f d) (hM:Mem base G0 own0 c) {f:FuncId} {vs args:List PV} (h:g8S E c.H o args=some (f,vs)) (ha:All2 (VOk c) args (o.op.operands.toList.map a.eval)) :
  E.how f=some .inl∧∃ us,All2 (VOk c) vs us∧(execOp a.eval o).run E.P c.w=(callFunc f us.toArray).run E.P c.w:=by
 unfold g8S at h
 split at h
 ·
  rename_i g ws ht
  split at h
  ·
   rename_i hh
   simp only [Option.some.injEq,Prod.mk.injEq] at h
   obtain ⟨rfl,rfl⟩:=h
   exact ⟨hh,e5G hT hmeth hM ht ha⟩
  ·
   cases h
 ·
  cases h
theorem g2O {E:Env} (hT:∀ id t,E.ty id=some t→TOk E.P t id) (hmeth:∀ t name f d,E.meth t name=some (f,d)→d3I E.P t name f d) (hM:Mem base G0 own0 c) {f:FuncId} {C:Con} {vs args:List PV} (h:g7H E c.H o args=some (f,C,vs)) (ha:All2 (VOk c) args (o.op.operands.toList.map a.eval)) :
  E.how f=some (.con C)∧∃ us,All2 (VOk c) vs us∧(execOp a.eval o).run E.P c.w=(callFunc f us.toArray).run E.P c.w:=by
 unfold g7H at h
 split at h
 ·
  cases h
 ·
  split at h
  ·
   rename_i g ws ht
   split at h
   ·
    rename_i D hh
    simp only [Option.some.injEq,Prod.mk.injEq] at h
    obtain ⟨rfl,rfl,rfl⟩:=h
    exact ⟨hh,e5G hT hmeth hM ht ha⟩
   ·
    cases h
  ·
   cases h
end
end Sym

/- Shapes: what is taken out of a state stands for the same values. -/
namespace Sym
open Go
def c0A:Blk→Blk→Prop
 | .box t _,.box u _=>t=u
 | .row t l,.row u r=>∃ e:t=u,(e ▸ l)=r
 | _,_=>False
structure Part (cc c:Cx) (σ:Sub) (lent:List Nat):Prop where
 w:cc.w=c.w
 blk:∀ i j,σ.get i=some j→cc.ρ i=c.ρ j∧c0A (a0L cc.H i) (a0L c.H j)
 G:∀ r,b3D c lent r→cc.G r
theorem f9U {cc c:Cx} {σ:Sub} {lent:List Nat} (h:Part cc c σ lent) {i j:Nat} (hij:σ.get i=some j) {p:List Step} {v:Value} (hv:PtrOk c j p v):PtrOk cc i p v:=by
 obtain ⟨hρ,hb⟩:=h.blk i j hij
 unfold PtrOk at *
 unfold c0A at hb
 rw [hρ]
 cases h1:a0L cc.H i<;>cases h2:a0L c.H j<;>simp only [h1,h2] at hb hv ⊢
 ·
  subst hb; exact hv
 ·
  obtain ⟨e,hb⟩:=hb; subst e; subst hb; exact hv
theorem f2X {cc c:Cx} {σ:Sub} {lent:List Nat} (h:Part cc c σ lent) {i j:Nat} (hij:σ.get i=some j) {v:Value} (hv:b2E c j v):b2E cc i v:=by
 obtain ⟨hρ,hb⟩:=h.blk i j hij
 unfold b2E at *
 unfold c0A at hb
 rw [hρ]
 cases h1:a0L cc.H i<;>cases h2:a0L c.H j<;>simp only [h1,h2] at hb hv ⊢
 exact hv
theorem d1O {σ σ':Sub} {i j:Nat} (h:σ.bind i j=some σ'):σ'.get i=some j∧(∀ k l,σ.get k=some l→σ'.get k=some l):=by
 unfold Sub.bind at h
 split at h
 ·
  rename_i j' hj
  split at h
  ·
   rename_i hb
   have hb:=Nat.eq_of_beq_eq_true hb
   simp only [Option.some.injEq] at h
   subst h; subst hb
   exact ⟨hj,fun k l hk=>hk⟩
  ·
   cases h
 ·
  rename_i hn
  split at h
  ·
   cases h
  ·
   simp only [Option.some.injEq] at h
   subst h
   refine ⟨by simp [Sub.get,Nat.beq_refl],fun k l hk=>?_⟩
   simp only [Sub.get]
   split
   ·
    rename_i hb
    have hb:=Nat.eq_of_beq_eq_true hb
    subst hb
    rw [hn] at hk; cases hk
   ·
    exact hk
def Mle (m m':Mt):Prop:=(∀ k l,m.σ.get k=some l→m'.σ.get k=some l)∧∀ b,b∈m.lent→b∈m'.lent
theorem Mle.refl (m:Mt):Mle m m:=⟨fun _ _ h=>h,fun _ h=>h⟩
theorem Mle.trans {a b c:Mt} (h:Mle a b) (h':Mle b c):Mle a c:=⟨fun k l hk=>h'.1 k l (h.1 k l hk),fun x hx=>h'.2 x (h.2 x hx)⟩
theorem Part.le {cc c:Cx} {m m':Mt} (h:Part cc c m'.σ m'.lent) (hle:Mle m m'):Part cc c m.σ m.lent :=
 ⟨h.w,fun i j hij=>h.blk i j (hle.1 i j hij),fun r hr=>h.G r (b8A hle.2 r hr)⟩
theorem e9M:∀ {p q:List Step},e0E p q=true→p=q
 | [],[],_=>rfl
 | a::p,b::q,h=>by
  simp only [e0E,Bool.and_eq_true] at h
  have:a=b:=by
   cases a<;>cases b<;>simp only [g3H] at h<;>first | (have:=Nat.eq_of_beq_eq_true h.1; rw [this]) | (cases h.1)
  rw [this,e9M h.2]
 | [],_::_,h=>by simp [e0E] at h
 | _::_,[],h=>by simp [e0E] at h
theorem f4C {c:Cx} (hB:∀ b,BlkOk c b):∀ (s:Sh) (v:PV) (m m':Mt) (x:s.D),s.ext c.H v m=some (x,m')→Mle m m' ∧
  ∀ (cc:Cx) (cs:List Value),Part cc c m'.σ m'.lent→a1J c v cs→a1J cc (s.mk x) cs∧a4R (s.mk x)=a4R v:=by
 intro s
 induction s with
 | pl t =>
  intro v m m' x h
  have h:(match a4E c.H t v with | some (x,l)=>some (x,(⟨m.σ,l++m.lent⟩:Mt)) | none=>none)=some (x,m'):=h
  split at h
  ·
   rename_i y l hy
   have h:=Option.some.inj h
   obtain ⟨rfl,rfl⟩:=Prod.mk.inj h
   refine ⟨⟨fun k l h=>h,fun b hb=>by simp [hb]⟩,fun cc cs hp hc=>⟨?_,?_⟩⟩
   ·
    have:=d0W hB t v cs y l hc hy
    show Enc cc.w cc.G t y cs
    rw [hp.w]
    exact c7Q (fun r hr=>hp.G r (b8A (fun b hb=>by simp [hb]) r hr)) this
   ·
    show t.isAgg=_
    cases v with
    | val u z =>
     have:(match Ty.cast u t z with | some y=>some (y,([]:List Nat)) | none=>none)=some (y,l):=by cases t<;>exact hy
     split at this
     ·
      rename_i hz
      obtain ⟨e,_⟩:=a8R hz
      subst e; rfl
     ·
      cases this
    | pair p q=>cases t<;>first | rfl | (simp [a4E] at hy)
    | tup p=>exact hc.elim
    | undef=>exact hc.elim
    | _=>cases t<;>first | rfl | (simp [a4E] at hy)
  ·
   cases h
 | bp t =>
  intro v m m' x h
  cases v with
  | bptr u y =>
   have h:(match Ty.cast u t y with | some y=>some (y,m) | none=>none)=some (x,m'):=h
   split at h
   ·
    rename_i z hz
    obtain ⟨e,rfl⟩:=a8R hz
    subst e
    have h:=Option.some.inj h
    obtain ⟨rfl,rfl⟩:=Prod.mk.inj h
    refine ⟨Mle.refl _,fun cc cs hp hc=>⟨?_,rfl⟩⟩
    obtain ⟨ad,ds,h1,h2,h3,h4,h5⟩:=hc
    refine ⟨ad,ds,h1,h2,hp.G _ (.inl h3),?_,?_⟩
    ·
     rw [hp.w]; exact c7Q (fun r hr=>hp.G r (.inl hr)) h4
    ·
     rw [hp.w]; exact h5
   ·
    cases h
  | ptr b p =>
   have h:(match f6V c.H t b p with | some (x,l)=>some (x,(⟨m.σ,l++m.lent⟩:Mt)) | none=>none)=some (x,m'):=h
   split at h
   ·
    rename_i y l hy
    have h:=Option.some.inj h
    obtain ⟨rfl,rfl⟩:=Prod.mk.inj h
    refine ⟨⟨fun k l h=>h,fun b hb=>by simp [hb]⟩,fun cc cs hp hc=>⟨?_,rfl⟩⟩
    obtain ⟨v,rfl,_,hv⟩:=hc
    unfold f6V at hy
    unfold PtrOk at hv
    have hb:=hB b
    unfold BlkOk at hb
    cases h1:a0L c.H b with
    | box t0 v0 =>
     simp only [h1] at hy hv hb
     split at hy
     ·
      rename_i y0 hg
      split at hy
      ·
       rename_i z l' hz
       have hy:=Option.some.inj hy
       obtain ⟨rfl,rfl⟩:=Prod.mk.inj hy
       obtain ⟨r,cs0,ty,e1,e2,hcs,hf⟩:=hb
       obtain ⟨r',o,u,e3,e4,rfl⟩:=hv
       rw [e1] at e3
       simp only [Value.pointer.injEq,Option.some.injEq,Addr.mk.injEq] at e3
       obtain ⟨rfl,_,_⟩:=e3
       obtain ⟨hf',hc'⟩:=c0W v0 t0 cs0 p o u _ hcs hf e4 hg
       have he:=d0W hB t y0 _ _ _ hc' hz
       refine ⟨⟨r,o,none⟩,(cs0.drop o).take u.sz,rfl,rfl,hp.G _ (.inr ⟨b,by simp,by simp [h1,live],by simp [e1,a6C]⟩),?_,?_⟩
       ·
        rw [hp.w]; exact c7Q (fun r hr=>hp.G r (b8A (fun b hb=>by simp [hb]) r hr)) he
       ·
        rw [hp.w]
        intro j d hj
        simp only [World.cell?,e2,Option.isSome_none,Bool.false_eq_true,if_false]
        rw [List.getElem?_take] at hj
        split at hj
        ·
         rw [List.getElem?_drop] at hj; simpa using hj
        ·
         cases hj
      ·
       cases hy
     ·
      cases hy
    | _=>simp [h1] at hy
   ·
    cases h
  | _=>simp [Sh.ext] at h
 | ptr b p =>
  intro v m m' x h
  cases v with
  | ptr b' q =>
   simp only [Sh.ext] at h
   split at h
   ·
    rename_i hpq
    have:=e9M hpq
    subst this
    split at h
    ·
     rename_i σ' hσ
     have h:=Option.some.inj h
     obtain ⟨rfl,rfl⟩:=Prod.mk.inj h
     obtain ⟨g1,g2⟩:=d1O hσ
     refine ⟨⟨g2,fun b hb=>hb⟩,fun cc cs hp hc=>⟨?_,rfl⟩⟩
     obtain ⟨v,e,h1,h2⟩:=hc
     exact ⟨v,e,h1,f9U hp g1 h2⟩
    ·
     cases h
   ·
    cases h
  | _=>simp [Sh.ext] at h
 | npt =>
  intro v m m' x h
  cases v with
  | npt =>
   simp only [Sh.ext] at h
   have h:=Option.some.inj h
   obtain ⟨rfl,rfl⟩:=Prod.mk.inj h
   exact ⟨Mle.refl _,fun cc cs hp hc=>⟨hc,rfl⟩⟩
  | _=>simp [Sh.ext] at h
 | whole b =>
  intro v m m' x h
  cases v with
  | whole b' =>
   simp only [Sh.ext] at h
   split at h
   ·
    rename_i σ' hσ
    have h:=Option.some.inj h
    obtain ⟨rfl,rfl⟩:=Prod.mk.inj h
    obtain ⟨g1,g2⟩:=d1O hσ
    refine ⟨⟨g2,fun b hb=>hb⟩,fun cc cs hp hc=>⟨?_,rfl⟩⟩
    obtain ⟨v,e,h1,h2⟩:=hc
    exact ⟨v,e,h1,f2X hp g1 h2⟩
   ·
    cases h
  | _=>simp [Sh.ext] at h
 | pair p q ihp ihq =>
  intro v m m' x h
  cases v with
  | pair u w =>
   simp only [Sh.ext] at h
   split at h
   ·
    rename_i y m1 hy
    split at h
    ·
     rename_i z m2 hz
     have h:=Option.some.inj h
     obtain ⟨rfl,rfl⟩:=Prod.mk.inj h
     obtain ⟨l1,r1⟩:=ihp u m m1 y hy
     obtain ⟨l2,r2⟩:=ihq w m1 m2 z hz
     refine ⟨l1.trans l2,fun cc cs hp hc=>⟨?_,rfl⟩⟩
     obtain ⟨c1,c2,e,h1,h2⟩:=hc
     exact ⟨c1,c2,e,(r1 cc c1 (hp.le l2) h1).1,(r2 cc c2 hp h2).1⟩
    ·
     cases h
   ·
    cases h
  | _=>simp [Sh.ext] at h
 | fn f =>
  intro v m m' x h
  cases v with
  | fn g =>
   simp only [Sh.ext] at h
   split at h
   ·
    rename_i hb
    have:=Nat.eq_of_beq_eq_true hb
    subst this
    have h:=Option.some.inj h
    obtain ⟨rfl,rfl⟩:=Prod.mk.inj h
    exact ⟨Mle.refl _,fun cc cs hp hc=>⟨hc,rfl⟩⟩
   ·
    cases h
  | _=>simp [Sh.ext] at h
 | iface t s ih =>
  intro v m m' x h
  cases v with
  | iface u w =>
   simp only [Sh.ext] at h
   split at h
   ·
    rename_i hb
    have:=Nat.eq_of_beq_eq_true hb
    subst this
    obtain ⟨l1,r1⟩:=ih w m m' x h
    refine ⟨l1,fun cc cs hp hc=>⟨?_,rfl⟩⟩
    obtain ⟨ds,e,h1⟩:=hc
    obtain ⟨k1,k2⟩:=r1 cc ds hp h1
    exact ⟨ds,by rw [k2]; exact e,k1⟩
   ·
    cases h
  | _=>simp [Sh.ext] at h
 | clo f s ih =>
  intro v m m' x h
  cases v with
  | clo g w =>
   simp only [Sh.ext] at h
   split at h
   ·
    rename_i hb
    have:=Nat.eq_of_beq_eq_true hb
    subst this
    obtain ⟨l1,r1⟩:=ih w m m' x h
    refine ⟨l1,fun cc cs hp hc=>⟨?_,rfl⟩⟩
    obtain ⟨us,e,h1⟩:=hc
    exact ⟨us,e,(r1 cc us hp h1).1⟩
   ·
    cases h
  | _=>simp [Sh.ext] at h
 | dead=>intro v m m' x h; cases v<;>simp [Sh.ext] at h
theorem g0R {c:Cx} (hB:∀ b,BlkOk c b) {s:Sh} {v:PV} {m m':Mt} {x:s.D} (h:s.ext c.H v m=some (x,m')):Mle m m' ∧
  ∀ (cc:Cx) (u:Value),Part cc c m'.σ m'.lent→VOk c v u→VOk cc (s.mk x) u:=by
 obtain ⟨h1,h2⟩:=f4C hB s v m m' x h
 refine ⟨h1,fun cc u hp hv=>?_⟩
 cases v with
 | tup p=>cases s<;>first | (simp [Sh.ext] at h; done) | (rename_i t; cases t<;>simp [Sh.ext,a4E] at h)
 | undef=>cases s<;>first | (simp [Sh.ext] at h; done) | (rename_i t; cases t<;>simp [Sh.ext,a4E] at h)
 | _ =>
  obtain ⟨cs,hc,hu⟩:=hv
  obtain ⟨k1,k2⟩:=h2 cc cs hp hc
  rw [← k2] at hu
  generalize s.mk x=pv at k1 hu
  cases pv<;>first | exact k1.elim | exact ⟨cs,k1,hu⟩
theorem e6V {c:Cx} (hB:∀ b,BlkOk c b):∀ (l:List Sh) (vs:List PV) (m m':Mt) (x:ShD l),a7M c.H l vs m=some (x,m')→Mle m m' ∧
  ∀ (cc:Cx) (us:List Value),Part cc c m'.σ m'.lent→All2 (VOk c) vs us→∃ us',us=us'++us.drop l.length∧us'.length=l.length∧All2 (VOk cc) (a1W l x) us':=by
 intro l
 induction l with
 | nil =>
  intro vs m m' x h
  simp only [a7M,Option.some.injEq,Prod.mk.injEq] at h
  obtain ⟨_,rfl⟩:=h
  exact ⟨Mle.refl _,fun cc us _ _=>⟨[],by simp,rfl,trivial⟩⟩
 | cons s l ih =>
  intro vs m m' x h
  cases vs with
  | nil=>simp [a7M] at h
  | cons v vs =>
   simp only [a7M] at h
   split at h
   ·
    rename_i y m1 hy
    split at h
    ·
     rename_i z m2 hz
     have h:=Option.some.inj h
     obtain ⟨rfl,rfl⟩:=Prod.mk.inj h
     obtain ⟨l2,r2⟩:=ih vs m1 m2 z hz
     have hmk:a1W (s::l) (ShD.cons s l y z)=s.mk y::a1W l z:=by cases s<;>rfl
     have hstep:Mle m m1∧∀ (cc:Cx) (u:Value),Part cc c m1.σ m1.lent→VOk c v u→VOk cc (s.mk y) u:=by
      cases s with
      | dead =>
       simp only [Sh.ext',Option.some.injEq,Prod.mk.injEq] at hy
       obtain ⟨_,rfl⟩:=hy
       exact ⟨Mle.refl _,fun _ _ _ _=>trivial⟩
      | _=>exact g0R hB hy
     obtain ⟨l1,r1⟩:=hstep
     refine ⟨l1.trans l2,fun cc us hp ha=>?_⟩
     cases us with
     | nil=>exact ha.elim
     | cons u us =>
      obtain ⟨hu,ha⟩:=ha
      obtain ⟨us',e,hl,ha'⟩:=r2 cc us hp ha
      refine ⟨u::us',by simp only [List.length_cons,List.drop_succ_cons,List.cons_append]; rw [← e],by simp [hl],?_⟩
      rw [hmk]
      exact ⟨r1 cc u (hp.le l2) hu,ha'⟩
    ·
     cases h
   ·
    cases h
end Sym

/- Shapes: a whole state's part. -/
namespace Sym
open Go
theorem g0G {c:Cx} (hB:∀ b,BlkOk c b) {b:BSh} {B:Blk} {m m':Mt} {x:b.D} (h:b.ext c.H B m=some (x,m')):Mle m m'∧c0A (b.mk x) B:=by
 cases b with
 | box t s =>
  cases B with
  | box u v =>
   simp only [BSh.ext] at h
   split at h
   ·
    rename_i htu
    split at h
    ·
     rename_i y m1 hy
     split at h
     ·
      have h:=Option.some.inj h
      obtain ⟨rfl,rfl⟩:=Prod.mk.inj h
      exact ⟨(f4C hB s v m m1 y hy).1,Ty.beq_eq htu⟩
     ·
      cases h
    ·
     cases h
   ·
    cases h
  | _=>simp [BSh.ext] at h
 | row t =>
  cases B with
  | row u l =>
   simp only [BSh.ext] at h
   split at h
   ·
    rename_i y hy
    obtain ⟨e,rfl⟩:=a8R hy
    injection e with e
    subst e
    have h:=Option.some.inj h
    obtain ⟨rfl,rfl⟩:=Prod.mk.inj h
    exact ⟨Mle.refl _,rfl,rfl⟩
   ·
    cases h
  | _=>simp [BSh.ext] at h
theorem g5S {c:Cx} (hB:∀ b,BlkOk c b) {b:BSh} {j:Nat} {m m':Mt} {x:b.D} (h:b.ext c.H (a0L c.H j) m=some (x,m')) {cc:Cx} (hp:Part cc c m'.σ m'.lent) {i:Nat} (hij:m'.σ.get i=some j) (hi:a0L cc.H i=b.mk x):BlkOk cc i:=by
 have hb:=hB j
 obtain ⟨hρ,_⟩:=hp.blk i j hij
 unfold BlkOk at hb ⊢
 rw [hi]
 cases b with
 | box t s =>
  cases hB2:a0L c.H j with
  | box u v =>
   rw [hB2] at h
   simp only [hB2] at hb
   simp only [BSh.ext] at h
   split at h
   ·
    split at h
    ·
     rename_i y m1 hy
     split at h
     ·
      rename_i hfit
      have h:=Option.some.inj h
      obtain ⟨rfl,rfl⟩:=Prod.mk.inj h
      obtain ⟨r,cs,ty,e1,e2,e3,e4⟩:=hb
      exact ⟨r,cs,ty,hρ.trans e1,by rw [hp.w]; exact e2,((f4C hB s v m m1 y hy).2 cc cs hp e3).1,hfit⟩
     ·
      cases h
    ·
     cases h
   ·
    cases h
  | _=>rw [hB2] at h; simp [BSh.ext] at h
 | row t =>
  cases hB2:a0L c.H j with
  | row u l =>
   rw [hB2] at h
   simp only [hB2] at hb
   simp only [BSh.ext] at h
   split at h
   ·
    rename_i y hy
    obtain ⟨e,rfl⟩:=a8R hy
    injection e with e
    subst e
    have h:=Option.some.inj h
    obtain ⟨rfl,rfl⟩:=Prod.mk.inj h
    obtain ⟨hl,e,xs,ho,hx⟩:=hb
    refine ⟨hl,e,xs,?_,b3L (fun x cs he=>?_) _ xs hx⟩
    ·
     show cc.w.ownsRow 0 e _ (cc.ρ i) _ xs
     rw [hρ,hp.w]; exact ho
    ·
     rw [hp.w]; exact c7Q (fun r hr=>hp.G r (.inl hr)) he
   ·
    cases h
  | _=>rw [hB2] at h; simp [BSh.ext] at h
theorem f3K {c:Cx} (hB:∀ b,BlkOk c b):∀ (l:List BSh) (i0:Nat) (m m':Mt) (y:f0T l),b7Y c.H l i0 m=some (y,m')→Mle m m' ∧
  (∀ k,k<l.length→∃ j,m'.σ.get (i0+k)=some j∧c0A (a0L (a3K l y) k) (a0L c.H j)) ∧
  ∀ cc,Part cc c m'.σ m'.lent→(∀ k,k<l.length→a0L cc.H (i0+k)=a0L (a3K l y) k)→∀ k,k<l.length→BlkOk cc (i0+k):=by
 intro l
 induction l with
 | nil =>
  intro i0 m m' y h
  simp only [b7Y,Option.some.injEq,Prod.mk.injEq] at h
  obtain ⟨_,rfl⟩:=h
  exact ⟨Mle.refl _,fun k hk=>by simp at hk,fun cc _ _ k hk=>by simp at hk⟩
 | cons b l ih =>
  intro i0 m m' y h
  simp only [b7Y] at h
  split at h
  ·
   rename_i j hj
   split at h
   ·
    rename_i x m1 hx
    split at h
    ·
     rename_i z m2 hz
     have h:=Option.some.inj h
     obtain ⟨rfl,rfl⟩:=Prod.mk.inj h
     obtain ⟨l1,s1⟩:=g0G hB hx
     obtain ⟨l2,s2,r2⟩:=ih (i0+1) m1 m2 z hz
     refine ⟨l1.trans l2,fun k hk=>?_,fun cc hp hH k hk=>?_⟩
     ·
      cases k with
      | zero=>exact ⟨j,l2.1 _ _ (l1.1 _ _ hj),s1⟩
      | succ k =>
       obtain ⟨j',g1,g2⟩:=s2 k (by simpa using hk)
       exact ⟨j',by rw [show i0+(k+1)=i0+1+k by omega]; exact g1,g2⟩
     ·
      cases k with
      | zero=>exact g5S hB hx (hp.le l2) (l1.1 _ _ hj) (hH 0 (by simp))
      | succ k =>
       have:=r2 cc hp (fun k hk=>by have:=hH (k+1) (by simpa using hk); rw [show i0+1+k=i0+(k+1) by omega]; exact this) k (by simpa using hk)
       rw [show i0+(k+1)=i0+1+k by omega]
       exact this
    ·
     cases h
   ·
    cases h
  ·
   cases h
theorem b6S:∀ (H:List Blk) (i:Nat),H.length≤i→a0L H i=.unborn
 | [],_,_=>rfl
 | _::H,0,h=>by simp at h
 | _::H,i+1,h=>b6S H i (by simpa using h)
theorem b0S:∀ (l:List BSh) (y:f0T l),(a3K l y).length=l.length
 | [],_=>rfl
 | _::l,y=>by simp [a3K,b0S l y.2]
theorem e1Z:∀ (σ:Sub) (n:Nat),σ.keys n=true→∀ i j,σ.get i=some j→i<n
 | [],_,_,i,j,h=>by cases h
 | (k,l)::σ,n,hk,i,j,h=>by
  simp only [Sub.keys,Bool.and_eq_true] at hk
  simp only [Sub.get] at h
  split at h
  ·
   rename_i hb
   have:=Nat.eq_of_beq_eq_true hb
   have:=Nat.le_of_ble_eq_true hk.1
   omega
  ·
   exact e1Z σ n hk.2 i j h
theorem c0Y:∀ (σ:Sub) (i j:Nat),σ.get i=some j→σ.inv j=true
 | [],_,_,h=>by cases h
 | (k,l)::σ,i,j,h=>by
  simp only [Sub.get] at h
  simp only [Sub.inv,Bool.or_eq_true]
  split at h
  ·
   left; simp only [Option.some.injEq] at h; rw [h]; exact Nat.beq_refl j
  ·
   right; exact c0Y σ i j h
theorem g4Q:∀ (σ:Sub),σ.inj=true→∀ i i' j,σ.get i=some j→σ.get i'=some j→i=i'
 | [],_,i,i',j,h,_=>by cases h
 | (k,l)::σ,hk,i,i',j,h,h'=>by
  simp only [Sub.inj,Bool.and_eq_true,Bool.not_eq_true'] at hk
  simp only [Sub.get] at h h'
  split at h
  ·
   rename_i hb
   have e1:=Nat.eq_of_beq_eq_true hb
   simp only [Option.some.injEq] at h
   split at h'
   ·
    rename_i hb'
    have e2:=Nat.eq_of_beq_eq_true hb'
    omega
   ·
    have:=c0Y σ i' j h'
    rw [← h] at this
    rw [hk.1] at this; cases this
  ·
   split at h'
   ·
    simp only [Option.some.injEq] at h'
    have:=c0Y σ i j h
    rw [← h'] at this
    rw [hk.1] at this; cases this
   ·
    exact g4Q σ hk.2 i i' j h h'
def b2T (c:Cx) (τ:Tm) (x:τ.D) (m:Mt) (G:Nat→Prop):Cx :=
 ⟨c.w,G,fun i=>match m.σ.get i with | some j=>c.ρ j | none=>.bool false,a3K τ.heap x.2⟩
theorem f6E {c:Cx} (hB:∀ b,BlkOk c b) {τ:Tm} {vs:List PV} {x:τ.D} {m0 m:Mt} (h:τ.extF m0 vs c.H=some (x,m)) :
  Mle m0 m∧(∀ b,b∈m.lent→m.σ.inv b=false∧live (a0L c.H b)=true)∧(∀ i j,m.σ.get i=some j→i<τ.heap.length)∧(∀ i,i<τ.heap.length→∃ j,m.σ.get i=some j)∧(∀ i i' j,m.σ.get i=some j→m.σ.get i'=some j→i=i') ∧
  (∀ i j,m.σ.get i=some j→c0A (a0L (a3K τ.heap x.2) i) (a0L c.H j)) ∧
  ∀ (G:Nat→Prop),(∀ r,b3D c m.lent r→G r)→(∀ i,BlkOk (b2T c τ x m G) i) ∧
   ∀ us,All2 (VOk c) vs us→∃ us',us=us'++us.drop τ.slots.length∧us'.length=τ.slots.length∧All2 (VOk (b2T c τ x m G)) (a1W τ.slots x.1) us':=by
 unfold Tm.extF at h
 split at h
 ·
  rename_i y m1 hy
  split at h
  ·
   rename_i z m2 hz
   split at h
   ·
    rename_i hok
    have h:=Option.some.inj h
    obtain ⟨rfl,rfl⟩:=Prod.mk.inj h
    simp only [Mt.okb,Bool.and_eq_true,List.all_eq_true,Bool.not_eq_true'] at hok
    obtain ⟨k1,k2,k3⟩:=hok
    obtain ⟨l1,r1⟩:=e6V hB τ.slots vs m0 m1 y hy
    obtain ⟨l2,s2,r2⟩:=f3K hB τ.heap 0 m1 m2 z hz
    simp only [Nat.zero_add] at s2 r2
    have hsim:∀ i j,m2.σ.get i=some j→c0A (a0L (a3K τ.heap z) i) (a0L c.H j):=by
     intro i j hij
     obtain ⟨j',g1,g2⟩:=s2 i (e1Z _ _ k2 i j hij)
     rw [hij] at g1
     simp only [Option.some.injEq] at g1
     subst g1
     exact g2
    refine ⟨l1.trans l2,k1,e1Z _ _ k2,fun i hi=>(s2 i hi).imp fun j hj=>hj.1,g4Q _ k3,hsim,fun G hG=>?_⟩
    have hp:Part (b2T c τ (y,z) m2 G) c m2.σ m2.lent:=⟨rfl,fun i j hij=>⟨by simp [b2T,hij],hsim i j hij⟩,hG⟩
    refine ⟨fun i=>?_,fun us ha=>r1 _ us (hp.le l2) ha⟩
    by_cases hi:i<τ.heap.length
    ·
     exact r2 _ hp (fun k _=>rfl) i hi
    ·
     unfold BlkOk
     rw [show a0L (b2T c τ (y,z) m2 G).H i=.unborn from b6S _ _ (by rw [show (b2T c τ (y,z) m2 G).H=a3K τ.heap z from rfl,b0S]; omega)]
     trivial
   ·
    cases h
  ·
   cases h
 ·
  cases h
theorem f7O {c:Cx} (hB:∀ b,BlkOk c b) {τ:Tm} {vs:List PV} {x:τ.D} {m:Mt} (h:τ.ext vs c.H=some (x,m)) :
  (∀ b,b∈m.lent→m.σ.inv b=false∧live (a0L c.H b)=true)∧(∀ i j,m.σ.get i=some j→i<τ.heap.length)∧(∀ i,i<τ.heap.length→∃ j,m.σ.get i=some j)∧(∀ i i' j,m.σ.get i=some j→m.σ.get i'=some j→i=i') ∧
  (∀ i j,m.σ.get i=some j→c0A (a0L (a3K τ.heap x.2) i) (a0L c.H j)) ∧
  ∀ (G:Nat→Prop),(∀ r,b3D c m.lent r→G r)→(∀ i,BlkOk (b2T c τ x m G) i) ∧
   ∀ us,All2 (VOk c) vs us→∃ us',us=us'++us.drop τ.slots.length∧us'.length=τ.slots.length∧All2 (VOk (b2T c τ x m G)) (a1W τ.slots x.1) us':=(f6E hB h).2
theorem f0S:∀ (l:List PV) (i:Nat) (σ σ':Sub),c3U l i σ=some σ'→(∀ k v,σ.get k=some v→σ'.get k=some v)∧∀ j,j<l.length→∃ b,l[j]?=some (.ptr b [])∧σ'.get (i+j)=some b
 | [],i,σ,σ',h=>by
  simp only [c3U,Option.some.injEq] at h
  subst h
  exact ⟨fun k v h=>h,fun j h=>by simp at h⟩
 | .ptr b []::l,i,σ,σ',h=>by
  simp only [c3U] at h
  split at h
  ·
   rename_i σ1 h1
   obtain ⟨g1,g2⟩:=d1O h1
   obtain ⟨k1,k2⟩:=f0S l (i+1) σ1 σ' h
   refine ⟨fun k v hk=>k1 k v (g2 k v hk),fun j hj=>?_⟩
   cases j with
   | zero=>exact ⟨b,rfl,k1 _ _ g1⟩
   | succ j =>
    obtain ⟨b',q1,q2⟩:=k2 j (by simpa using hj)
    exact ⟨b',by simpa using q1,by rw [show i+(j+1)=i+1+j by omega]; exact q2⟩
  ·
   cases h
 | .ptr b (s::p)::l,i,σ,σ',h=>by simp [c3U] at h
 | .val _ _::_,_,_,_,h=>by simp [c3U] at h
 | .nils::_,_,_,_,h=>by simp [c3U] at h
 | .pair _ _::_,_,_,_,h=>by simp [c3U] at h
 | .tup _::_,_,_,_,h=>by simp [c3U] at h
 | .bptr _ _::_,_,_,_,h=>by simp [c3U] at h
 | .npt::_,_,_,_,h=>by simp [c3U] at h
 | .whole _::_,_,_,_,h=>by simp [c3U] at h
 | .row _ _ _::_,_,_,_,h=>by simp [c3U] at h
 | .aview _ _ _ _::_,_,_,_,h=>by simp [c3U] at h
 | .fn _::_,_,_,_,h=>by simp [c3U] at h
 | .iface _ _::_,_,_,_,h=>by simp [c3U] at h
 | .clo _ _::_,_,_,_,h=>by simp [c3U] at h
 | .cut _ _::_,_,_,_,h=>by simp [c3U] at h
 | .undef::_,_,_,_,h=>by simp [c3U] at h
end Sym

/- Calls by contract. -/
namespace Sym
open Go
structure Start (c:Cx):Prop where
 blk:∀ b,BlkOk c b
 inj:∀ b b' r,live (a0L c.H b)=true→live (a0L c.H b')=true→a6C (c.ρ b)=some r→a6C (c.ρ b')=some r→b=b'
 G:∀ r,c.G r→r<c.w.heap.size∧∀ b,live (a0L c.H b)=true→a6C (c.ρ b)≠some r
def d0H (c:Cx):Nat→Prop:=fun r=>∃ b,live (a0L c.H b)=true∧a6C (c.ρ b)=some r
def f9C (c:Cx):Nat→Prop:=fun r=>c.G r∨d0H c r
theorem Start.mem {c:Cx} (h:Start c):Mem c.w (f9C c) (d0H c) c:=by
 refine ⟨rfl,rfl,rfl,Nat.le_refl _,fun _ _ _=>rfl,h.blk,h.inj,fun b r hl he=>.inl ⟨b,hl,he⟩,?_,fun r hr=>.inr hr⟩
 funext r
 refine propext ⟨fun hr=>⟨.inl (.inl hr),h.G r hr⟩,fun hr=>?_⟩
 obtain ⟨h1,h2,h3⟩:=hr
 rcases h1 with (h1 | ⟨b,hl,he⟩) | h1
 ·
  exact h1
 ·
  exact absurd he (h3 b hl)
 ·
  omega
def g4R (P:Program) (f:FuncId) (args:Array Value) (w:World) (R:Value→World→Prop):Prop :=
 (∃ v w',(callFunc f args).run P w=.ok (.value v) w'∧R v w') ∨
 ((callFunc f args).run P w=.ok (.enter f args) w∧Calls P f args w fun e w'=>∃ v,e=.returned v∧R v w')
def a0Z (P:Program) (f:FuncId) (C:Con):Prop :=
 ∀ x y,C.F x=some y→∀ (c:Cx) (vals:List Value),Start c→c.H=a3K C.In.heap x.2→All2 (VOk c) (a1W C.In.slots x.1) vals →
  g4R P f vals.toArray c.w fun v w'=>∃ c',c'.w=w'∧c'.H=a3K C.Out.heap y.2∧VOk c' (tuple (a1W C.Out.slots y.1)) v∧Mem c.w (f9C c) (d0H c) c'∧∀ i,i<b0T C.In.heap→c'.ρ i=c.ρ i
def b6F:PV→Bool
 | .val t _=>!t.hasSl
 | .pair a b=>b6F a&&b6F b
 | .tup a=>b6F a
 | .bptr _ _=>false
 | .iface _ v=>b6F v
 | .clo _ v=>b6F v
 | _=>true
theorem c9N:∀ (s:Sh) (x:s.D),s.hasSl=false→b6F (s.mk x)=true:=by
 intro s
 induction s with
 | pl t=>intro x h; simp only [Sh.hasSl] at h; simp [Sh.mk,b6F,h]
 | pair a b iha ihb=>intro x h; simp only [Sh.hasSl,Bool.or_eq_false_iff] at h; simp [Sh.mk,b6F,iha _ h.1,ihb _ h.2]
 | iface t s ih=>intro x h; exact ih x h
 | clo f s ih=>intro x h; exact ih x h
 | bp t=>intro x h; simp [Sh.hasSl] at h
 | _=>intro x _; rfl
structure Ren (c1 c2:Cx) (f:Nat→Nat):Prop where
 w:c2.w=c1.w
 blk:∀ i,a0L c1.H i≠.unborn→a0L c2.H (f i)=b2V f (a0L c1.H i)∧c2.ρ (f i)=c1.ρ i
theorem g7W {c1 c2:Cx} {f:Nat→Nat} (h:Ren c1 c2 f) {b:Nat} {p:List Step} {v:Value} (hv:PtrOk c1 b p v):PtrOk c2 (f b) p v:=by
 unfold PtrOk at *
 cases hb:a0L c1.H b with
 | unborn=>simp [hb] at hv
 | dead=>have:=(h.blk b (by simp [hb])).1; simp only [hb,b2V] at hv this; simp only [this]; exact hv
 | box t u=>obtain ⟨e1,e2⟩:=h.blk b (by simp [hb]); simp only [hb,b2V] at hv e1; simp only [e1,e2]; exact hv
 | row t l=>obtain ⟨e1,e2⟩:=h.blk b (by simp [hb]); simp only [hb,b2V] at hv e1; simp only [e1,e2]; exact hv
theorem e5D (f:Nat→Nat) (v:PV):a4R (c6E f v)=a4R v:=by cases v<;>rfl
theorem d0O {c1 c2:Cx} {f:Nat→Nat} (h:Ren c1 c2 f):∀ (v:PV) (cs:List Value),((∀ r,c1.G r→c2.G r)∨b6F v=true)→a1J c1 v cs→a1J c2 (c6E f v) cs:=by
 intro v
 induction v with
 | val t x =>
  intro cs hG he
  show Enc c2.w c2.G t x cs
  rcases hG with hG | hG
  ·
   rw [h.w]; exact c7Q hG he
  ·
   exact c8D t (by simpa [b6F] using hG) x cs he
 | pair a b iha ihb =>
  intro cs hG he
  obtain ⟨d1,d2,e,h1,h2⟩:=he
  refine ⟨d1,d2,e,iha _ (hG.imp _root_.id fun h=>?_) h1,ihb _ (hG.imp _root_.id fun h=>?_) h2⟩<;>simp only [b6F,Bool.and_eq_true] at h
  ·
   exact h.1
  ·
   exact h.2
 | ptr b p=>intro cs hG he; obtain ⟨v,e,h1,h2⟩:=he; exact ⟨v,e,h1,g7W h h2⟩
 | bptr t x =>
  intro cs hG he
  obtain ⟨ad,ds,h1,h2,h3,h4,h5⟩:=he
  rcases hG with hG | hG
  ·
   exact ⟨ad,ds,h1,h2,hG _ h3,by rw [h.w]; exact c7Q hG h4,by rw [h.w]; exact h5⟩
  ·
   simp [b6F] at hG
 | whole b =>
  intro cs hG he
  obtain ⟨v,e,h1,h2⟩:=he
  refine ⟨v,e,h1,?_⟩
  unfold b2E at *
  cases hb:a0L c1.H b with
  | unborn=>simp [hb] at h2
  | dead=>have:=(h.blk b (by simp [hb])).1; simp only [hb,b2V] at this; simp only [this]
  | box t u=>simp [hb] at h2
  | row t l=>obtain ⟨e1,e2⟩:=h.blk b (by simp [hb]); simp only [hb,b2V] at h2 e1; simp only [e1,e2]; exact h2
 | row b lo n =>
  intro cs hG he
  obtain ⟨v,e,h1,h2⟩:=he
  refine ⟨v,e,h1,?_⟩
  unfold d0G at *
  cases hb:a0L c1.H b with
  | unborn=>simp [hb] at h2
  | dead=>have:=(h.blk b (by simp [hb])).1; simp only [hb,b2V] at this; simp only [this]
  | box t u=>simp [hb] at h2
  | row t l=>obtain ⟨e1,e2⟩:=h.blk b (by simp [hb]); simp only [hb,b2V] at h2 e1; simp only [e1,e2]; exact h2
 | aview b p lo n =>
  intro cs hG he
  obtain ⟨v,e,h1,h2⟩:=he
  refine ⟨v,e,h1,?_⟩
  unfold c3F at *
  cases hb:a0L c1.H b with
  | unborn=>simp [hb] at h2
  | dead=>have:=(h.blk b (by simp [hb])).1; simp only [hb,b2V] at this; simp only [this]
  | row t u=>simp [hb] at h2
  | box t l=>obtain ⟨e1,e2⟩:=h.blk b (by simp [hb]); simp only [hb,b2V] at h2 e1; simp only [e1,e2]; exact h2
 | cut b k =>
  intro cs hG he
  obtain ⟨v,e,h1,h2⟩:=he
  refine ⟨v,e,h1,?_⟩
  unfold e0V at *
  cases hb:a0L c1.H b with
  | unborn=>simp [hb] at h2
  | dead=>have:=(h.blk b (by simp [hb])).1; simp only [hb,b2V] at this; simp only [this]
  | box t u=>simp [hb] at h2
  | row t l=>obtain ⟨e1,e2⟩:=h.blk b (by simp [hb]); simp only [hb,b2V] at h2 e1; simp only [e1,e2]; exact h2
 | iface t v ih =>
  intro cs hG he
  obtain ⟨ds,e,h1⟩:=he
  exact ⟨ds,by rw [e5D]; exact e,ih ds hG h1⟩
 | clo g v ih =>
  intro cs hG he
  obtain ⟨us,e,h1⟩:=he
  exact ⟨us,e,ih us hG h1⟩
 | nils=>intro cs _ he; exact he
 | npt=>intro cs _ he; exact he
 | fn f=>intro cs _ he; exact he
 | tup a=>intro cs _ he; exact he
 | undef=>intro cs _ he; exact he
theorem g8R {c1 c2:Cx} {f:Nat→Nat} (h:Ren c1 c2 f):∀ (v:PV) (vs:List Value),((∀ r,c1.G r→c2.G r)∨b6F v=true)→d8H c1 v vs→d8H c2 (c6E f v) vs:=by
 intro v
 induction v with
 | pair a b iha ihb =>
  intro vs hG he
  obtain ⟨cs,vs',e,h1,h2⟩:=he
  refine ⟨cs,vs',by rw [e5D]; exact e,d0O h _ _ (hG.imp _root_.id fun h=>?_) h1,ihb _ (hG.imp _root_.id fun h=>?_) h2⟩<;>simp only [b6F,Bool.and_eq_true] at h
  ·
   exact h.1
  ·
   exact h.2
 | val t x=>intro vs hG he; cases t<;>first | exact he | exact he.elim
 | _=>intro vs hG he; exact he.elim
theorem h1V {c1 c2:Cx} {f:Nat→Nat} (h:Ren c1 c2 f) {v:PV} {u:Value} (hG:(∀ r,c1.G r→c2.G r)∨b6F v=true) (hv:VOk c1 v u):VOk c2 (c6E f v) u:=by
 cases v with
 | tup a=>obtain ⟨vs,e,ht⟩:=hv; exact ⟨vs,e,g8R h a vs hG ht⟩
 | undef=>trivial
 | _=>obtain ⟨cs,h1,e⟩:=hv; have:=d0O h _ cs hG h1; exact ⟨cs,this,e⟩
theorem d9R:∀ (l:List Sh) (x:ShD l),l.any Sh.hasSl=false→b6F (tuple (a1W l x))=true:=by
 have hall:∀ (l:List Sh) (x:ShD l),l.any Sh.hasSl=false→∀ v∈a1W l x,b6F v=true:=by
  intro l
  induction l with
  | nil=>intro x _ v hv; simp [a1W] at hv
  | cons s l ih =>
   intro x h v hv
   simp only [List.any_cons,Bool.or_eq_false_iff] at h
   cases s with
   | pl t=>simp only [a1W,List.mem_cons] at hv; rcases hv with rfl | hv; exact c9N (.pl t) x.1 h.1; exact ih _ h.2 v hv
   | bp t=>simp only [a1W,List.mem_cons] at hv; rcases hv with rfl | hv; exact c9N (.bp t) x.1 h.1; exact ih _ h.2 v hv
   | pair p q=>simp only [a1W,List.mem_cons] at hv; rcases hv with rfl | hv; exact c9N (.pair p q) x.1 h.1; exact ih _ h.2 v hv
   | iface t s=>simp only [a1W,List.mem_cons] at hv; rcases hv with rfl | hv; exact c9N (.iface t s) x.1 h.1; exact ih _ h.2 v hv
   | clo f s=>simp only [a1W,List.mem_cons] at hv; rcases hv with rfl | hv; exact c9N (.clo f s) x.1 h.1; exact ih _ h.2 v hv
   | _=>simp only [a1W,List.mem_cons] at hv; rcases hv with rfl | hv; rfl; exact ih _ h.2 v hv
 have hfold:∀ (vs:List PV),(∀ v∈vs,b6F v=true)→b6F (vs.foldr .pair (.val .nil ()))=true:=by
  intro vs
  induction vs with
  | nil=>intro _; rfl
  | cons v vs ih=>intro h; simp only [List.foldr_cons,b6F,Bool.and_eq_true]; exact ⟨h v (by simp),ih fun u hu=>h u (by simp [hu])⟩
 intro l x h
 have:=hall l x h
 generalize a1W l x=vs at this
 match vs,this with
 | [],_=>rfl
 | [v],h=>exact h v (by simp)
 | v::u::r,h=>exact hfold (v::u::r) h
theorem e0I (nb:Nat):∀ (B:List Blk) (i:Nat) (H:List Blk) (j:Nat),a0L (a2I H (c5F nb i B)) j=if nb+i≤j∧j<nb+i+B.length then b2V (fun k=>nb+k) (a0L B (j-(nb+i))) else a0L H j
 | [],i,H,j=>by simp only [c5F,a2I,List.length_nil]; rw [if_neg (by omega)]
 | b::B,i,H,j=>by
  simp only [c5F,a2I]
  rw [e0I nb B (i+1),a5R]
  simp only [List.length_cons]
  by_cases h1:j=nb+i
  ·
   subst h1
   rw [if_neg (by omega),if_pos rfl,if_pos (by omega),Nat.sub_self]
   rfl
  ·
   by_cases h2:nb+(i+1)≤j∧j<nb+(i+1)+B.length
   ·
    rw [if_pos h2,if_pos (by omega),show j-(nb+i)=(j-(nb+(i+1)))+1 by omega]
    rfl
   ·
    rw [if_neg h2,if_neg h1,if_neg (by omega)]
theorem d1K (f:Nat→Nat) (b:Blk):live (b2V f b)=live b:=by cases b<;>rfl
theorem c5E:∀ (l:List BSh) (y:f0T l) (i:Nat),i<l.length→∃ b,l[i]?=some b∧∃ x:b.D,a0L (a3K l y) i=b.mk x
 | [],_,_,h=>by simp at h
 | b::l,y,0,_=>⟨b,rfl,y.1,rfl⟩
 | b::l,y,i+1,h=>by
  obtain ⟨b',h1,x,h2⟩:=c5E l y.2 i (by simpa using h)
  exact ⟨b',by simpa using h1,x,h2⟩
section
variable {P:Program} {base:World} {G0 own0:Nat→Prop} {o:Oper} {a:Act} {c:Cx}
theorem e8S (f:Nat→Nat):∀ (v:PV) (t:Ty),fits (c6E f v) t=fits v t:=by
 intro v
 induction v with
 | pair a b iha ihb=>intro t; cases t<;>simp [c6E,fits,iha,ihb]
 | _=>intro t; cases t<;>rfl
theorem g2E (hM:Mem base G0 own0 c) {f:FuncId} {us:List Value} (hex:(execOp a.eval o).run P c.w=(callFunc f us.toArray).run P c.w) {C:Con} (hC:a0Z P f C) (hin:C.In.heap=[]) {vs:List PV} (ha:All2 (VOk c) vs us) (hlen:vs.length=C.In.slots.length)
  {x:C.In.D} {m:Mt} (hx:C.In.ext vs c.H=some (x,m)) {y:C.Out.D} (hy:C.F x=some y) {nb:Nat} (hn:∀ i,i<C.Out.heap.length→a0L c.H (nb+i)=.unborn) :
  a4W P base G0 own0 o a c (c6E (fun k=>nb+k) (tuple (a1W C.Out.slots y.1))) ((match C.Out.hasSl with | true=>kill m.lent | false=>[])++c5F nb 0 (a3K C.Out.heap y.2)):=by
 obtain ⟨t1,t2,t3,t4,t5,t6⟩:=f7O hM.blk hx
 obtain ⟨hblk,hargs⟩:=t6 (b3D c m.lent) (fun r h=>h)
 obtain ⟨us',e1,e2,hargs⟩:=hargs _ ha
 have hll:us.length=C.In.slots.length:=by
  rw [← hlen]
  have:∀ (vs:List PV) (us:List Value),All2 (VOk c) vs us→us.length=vs.length:=by
   intro vs
   induction vs with
   | nil=>intro us h; cases us with | nil=>rfl | cons _ _=>exact h.elim
   | cons v vs ih=>intro us h; cases us with | nil=>exact h.elim | cons u us=>simp [ih us h.2]
  exact this vs _ ha
 have e1:us=us':=by
  rw [List.drop_of_length_le (by omega)] at e1
  simpa using e1
 subst e1
 have hσ:∀ i j,m.σ.get i=some j→False:=fun i j h=>by have:=t2 i j h; rw [hin] at this; simp at this
 have hdead:∀ b,a0L (b2T c C.In x m (b3D c m.lent)).H b=.unborn:=fun b=>b6S _ _ (by show (a3K C.In.heap x.2).length≤b; rw [b0S,hin]; simp)
 have hGl:∀ r,b3D c m.lent r→r<c.w.heap.size:=by
  rintro r (h | ⟨b,hb,hl,he⟩)
  ·
   rw [hM.G] at h; exact h.2.1
  ·
   exact (hM.blk b).lt hl he
 have hS:Start (b2T c C.In x m (b3D c m.lent)):=by
  refine ⟨hblk,fun b b' r h=>(by rw [hdead b] at h; cases h),fun r hr=>⟨hGl r hr,fun b h=>(by rw [hdead b] at h; cases h)⟩⟩
 have hcall:=hC x y hy _ _ hS rfl hargs
 have after:∀ v w',(∃ c':Cx,c'.w=w'∧c'.H=a3K C.Out.heap y.2∧VOk c' (tuple (a1W C.Out.slots y.1)) v∧Mem c.w (f9C (b2T c C.In x m (b3D c m.lent))) (d0H (b2T c C.In x m (b3D c m.lent))) c'∧∀ i,i<b0T C.In.heap→c'.ρ i=(b2T c C.In x m (b3D c m.lent)).ρ i) →
   ∃ c2:Cx,c2.w=w'∧Ext c c2∧Mem base G0 own0 c2∧c2.H=a2I c.H ((match C.Out.hasSl with | true=>kill m.lent | false=>[])++c5F nb 0 (a3K C.Out.heap y.2))∧VOk c2 (c6E (fun k=>nb+k) (tuple (a1W C.Out.slots y.1))) v:=by
  rintro v w' ⟨c',rfl,hH',hv',hM',_⟩
  have hlc:=b0S C.Out.heap y.2
  obtain ⟨c1,hw1,hH1,hρ1,hE1,hM1,hsame1,hG1⟩:∃ c1:Cx,c1.w=c.w∧c1.H=a2I c.H (match C.Out.hasSl with | true=>kill m.lent | false=>[])∧c1.ρ=c.ρ∧Ext c c1∧Mem base G0 own0 c1∧(∀ i,i<C.Out.heap.length→a0L c1.H (nb+i)=.unborn) ∧
    (C.Out.hasSl=true→∀ r,b3D c m.lent r→c1.G r):=by
   cases hsl:C.Out.hasSl with
   | false=>exact ⟨c,rfl,rfl,rfl,Ext.refl c,hM,hn,fun h=>by cases h⟩
   | true =>
    have hlive:∀ b∈m.lent,live (a0L c.H b)=true:=fun b hb=>(t1 b hb).2
    obtain ⟨c1,h1,h2,h3,h4,h5,h6,h7⟩:=e1H hM m.lent hlive
    refine ⟨c1,h1,h2,h3,h4,h5,fun i hi=>?_,fun _=>h6⟩
    rw [h7 _ fun hmem=>by have:=hlive _ hmem; rw [hn i hi] at this; cases this]
    exact hn i hi
  let H2:=a2I c1.H (c5F nb 0 (a3K C.Out.heap y.2))
  let ρ2:Nat→Value:=fun j=>if nb≤j∧j<nb+C.Out.heap.length then c'.ρ (j-nb) else c1.ρ j
  have hH2:∀ j,a0L H2 j=if nb≤j∧j<nb+C.Out.heap.length then b2V (fun k=>nb+k) (a0L (a3K C.Out.heap y.2) (j-nb)) else a0L c1.H j:=by
   intro j
   have:=e0I nb (a3K C.Out.heap y.2) 0 c1.H j
   simp only [Nat.add_zero,hlc] at this
   exact this
  have hnew:∀ i r,live (a0L c'.H i)=true→a6C (c'.ρ i)=some r→c.w.heap.size≤r:=by
   intro i r hl he
   rcases hM'.own i r hl he with ⟨b,hb,_⟩ | h
   ·
    rw [hdead b] at hb; cases hb
   ·
    exact h
  have hT:Turn base G0 own0 c1 (Cx.next base G0 c'.w ρ2 H2) (fun j=>nb≤j∧j<nb+C.Out.heap.length):=by
   refine ⟨hM'.os.trans (by rw [hw1]),hM'.tape.trans (by rw [hw1]),hM'.output.trans (by rw [hw1]),by show c1.w.heap.size≤c'.w.heap.size; rw [hw1]; exact hM'.size,fun j hj=>by simp [Cx.next,ρ2,hj],fun j hj=>by simp only [Cx.next]; rw [hH2,if_neg hj],fun r hr _=>?_,fun j hj=>?_,fun j r hj hl he=>?_,fun j j' r hj hj' hl hl' he he'=>?_,rfl⟩
   ·
    show c'.w.heap[r]?=c1.w.heap[r]?
    rw [hw1] at hr ⊢
    refine hM'.frame r hr fun ⟨b,hb,_⟩=>?_
    rw [hdead b] at hb; cases hb
   ·
    unfold c6O
    have:=hsame1 (j-nb) (by omega)
    rw [show nb+(j-nb)=j by omega] at this
    simp [this]
   ·
    left
    have hl:live (a0L H2 j)=true:=hl
    have he:a6C (ρ2 j)=some r:=he
    rw [hH2,if_pos hj,d1K] at hl
    simp only [ρ2,if_pos hj] at he
    rw [hw1]
    exact hnew (j-nb) r (by rw [hH']; exact hl) he
   ·
    have hl:live (a0L H2 j)=true:=hl
    have he:a6C (ρ2 j)=some r:=he
    have hl':live (a0L H2 j')=true:=hl'
    have he':a6C (ρ2 j')=some r:=he'
    rw [hH2,if_pos hj,d1K] at hl
    rw [hH2,if_pos hj',d1K] at hl'
    simp only [ρ2,if_pos hj] at he
    simp only [ρ2,if_pos hj'] at he'
    have:=hM'.inj (j-nb) (j' - nb) r (by rw [hH']; exact hl) (by rw [hH']; exact hl') he he'
    omega
  have hE:=hT.ext hM1
  have hren:Ren c' (Cx.next base G0 c'.w ρ2 H2) (fun k=>nb+k):=by
   refine ⟨rfl,fun i hi=>?_⟩
   have hlt:i<C.Out.heap.length:=by
    rcases Nat.lt_or_ge i C.Out.heap.length with h | h
    ·
     exact h
    ·
     exact absurd (b6S c'.H i (by rw [hH',hlc]; exact h)) hi
   simp only [Cx.next]
   rw [hH2,if_pos ⟨by omega,by omega⟩,show nb+i-nb=i by omega,hH']
   exact ⟨rfl,by simp only [ρ2]; rw [if_pos ⟨by omega,by omega⟩,show nb+i-nb=i by omega]⟩
  have hGG:C.Out.hasSl=true→∀ r,c'.G r→(Cx.next base G0 c'.w ρ2 H2).G r:=by
   intro hsl r hr
   rw [hM'.G] at hr
   obtain ⟨h1,h2,h3⟩:=hr
   have fresh:c.w.heap.size≤r→(Cx.next base G0 c'.w ρ2 H2).G r:=by
    intro hge
    refine ⟨.inr (by have:=hM.size; omega),h2,fun j hl he=>?_⟩
    have hl:live (a0L H2 j)=true:=hl
    have he:a6C (ρ2 j)=some r:=he
    rw [hH2] at hl
    split at hl
    ·
     rename_i hj
     rw [d1K] at hl
     simp only [ρ2,if_pos hj] at he
     exact h3 (j-nb) (by rw [hH']; exact hl) he
    ·
     rename_i hj
     simp only [ρ2,if_neg hj] at he
     have:=(hM1.blk j).lt hl he
     rw [hw1] at this
     omega
   rcases h1 with (h1 | ⟨b,hb,_⟩) | h1
   ·
    exact (hE.G r (hG1 hsl r h1)).1
   ·
    rw [hdead b] at hb; cases hb
   ·
    exact fresh h1
  have hMem:=hT.mem hM1 fun j hj=>by
   have hb:=hM'.blk (j-nb)
   obtain ⟨b,hbl,xb,hbk⟩:=c5E C.Out.heap y.2 (j-nb) (by omega)
   have hbh:C.Out.hasSl=false→b.hasSl=false:=by
    intro hsl
    simp only [Tm.hasSl,Bool.or_eq_false_iff] at hsl
    have:=hsl.2
    rw [List.any_eq_false] at this
    have:=this b (List.mem_of_getElem? hbl)
    simpa using this
   unfold BlkOk at hb ⊢
   simp only [Cx.next]
   rw [hH2,if_pos hj,hbk]
   rw [hH',hbk] at hb
   cases b with
   | box t s =>
    simp only [BSh.mk,b2V] at hb ⊢
    obtain ⟨r,cs,ty,k1,k2,k3,k4⟩:=hb
    refine ⟨r,cs,ty,by simp only [ρ2,if_pos hj]; exact k1,k2,d0O hren _ cs ?_ k3,by rw [e8S]; exact k4⟩
    cases hsl:C.Out.hasSl with
    | true=>exact .inl (hGG hsl)
    | false=>exact .inr (c9N s xb (by have:=hbh hsl; simpa [BSh.hasSl] using this))
   | row t =>
    simp only [BSh.mk,b2V] at hb ⊢
    obtain ⟨hl,e,xs,ho',hx'⟩:=hb
    refine ⟨hl,e,xs,by simp only [ρ2,if_pos hj]; exact ho',b3L (fun z cs hz=>?_) _ xs hx'⟩
    cases hsl:C.Out.hasSl with
    | true=>exact c7Q (hGG hsl) hz
    | false=>exact c8D t (by have:=hbh hsl; simpa [BSh.hasSl] using this) z cs hz
  refine ⟨Cx.next base G0 c'.w ρ2 H2,rfl,hE1.trans hE,hMem,by show H2=_; rw [a8G,← hH1],h1V hren ?_ hv'⟩
  cases hsl:C.Out.hasSl with
  | true=>exact .inl (hGG hsl)
  | false=>exact .inr (d9R _ _ (by simp only [Tm.hasSl,Bool.or_eq_false_iff] at hsl; exact hsl.1))
 intro K Q hK
 unfold Oper.wp
 rw [hex]
 rcases hcall with ⟨v,w',hr,hR⟩ | ⟨hr,hR⟩
 ·
  have hr:(callFunc f us.toArray).run P c.w=.ok (.value v) w':=hr
  rw [hr]
  obtain ⟨c2,rfl,g1,g2,g3,g4⟩:=after v w' hR
  exact hK v c2 g1 g2 g3 g4
 ·
  have hr:(callFunc f us.toArray).run P c.w=.ok (.enter f us.toArray) c.w:=hr
  rw [hr]
  refine Calls.mono hR ?_
  rintro e w' ⟨v,rfl,hR⟩
  obtain ⟨c2,rfl,g1,g2,g3,g4⟩:=after v w' hR
  exact hK v c2 g1 g2 g3 g4
end
def c9K (n:Nat) (v:Value):Prop:=∀ ad l cap,v=.slice (some ad) l cap→l=0∨n≤ad.block
def e4G (n:Nat) (v:Value):Prop:=c9K n v∧∀ vs,v=.tuple vs→∀ u∈vs.toList,c9K n u
def c2J (P:Program) (f:FuncId) (C:Con):Prop :=
 ∀ x y,C.F x=some y→∀ (c:Cx) (vals:List Value),Start c→c.H=a3K C.In.heap x.2→All2 (VOk c) (a1W C.In.slots x.1) vals →
  g4R P f vals.toArray c.w fun v w'=>(∃ c',c'.w=w'∧c'.H=a3K C.Out.heap y.2∧VOk c' (tuple (a1W C.Out.slots y.1)) v∧Mem c.w (f9C c) (d0H c) c')∧e4G c.w.heap.size v
theorem e3I {w:World} {G G':Nat→Prop} {n:Nat} {t:Ty} (ht:c7A t=true) {x:t.D} {cs:List Value} (he:Enc w G t x cs) (hf:∀ u∈cs,c9K n u) (hG:∀ r,G r→n≤r→G' r):Enc w G' t x cs:=by
 cases t with
 | sl t =>
  simp only [c7A,Bool.not_eq_true'] at ht
  obtain ⟨a,c,e,hc,hl,hx⟩:=he
  refine ⟨a,c,e,hc,hl,?_⟩
  rcases hx with hx | ⟨ad,ha,hs,hg,hr⟩
  ·
   exact .inl hx
  ·
   by_cases h0:(show List t.D from x)=[]
   ·
    exact .inl h0
   ·
    right
    refine ⟨ad,ha,hs,hG _ hg ?_,fun i y hy=>?_⟩
    ·
     subst e ha
     rcases hf _ (List.mem_singleton_self _) ad _ _ rfl with h | h
     ·
      exact absurd (List.eq_nil_of_length_eq_zero h) h0
     ·
      exact h
    ·
     obtain ⟨ds,h1,h2⟩:=hr i y hy
     exact ⟨ds,c8D t ht y ds h1,h2⟩
 | _=>exact c8D _ (by simpa [c7A] using ht) x cs he
theorem d1B {w:World} {G:Nat→Prop} {n:Nat} {X:Type} {E:X→List Value→Prop} (h:∀ x cs,E x cs→∀ u∈cs,c9K n u):∀ (k:Nat) (x:Arr X k) (cs:List Value),b4V E k x cs→∀ u∈cs,c9K n u
 | 0,_,cs,he,u,hu=>by simp only [b4V] at he; subst he; simp at hu
 | k+1,x,cs,he,u,hu=>by
  obtain ⟨c1,c2,rfl,h1,h2⟩:=he
  rcases List.mem_append.1 hu with hu | hu
  ·
   exact h _ _ h1 u hu
  ·
   exact d1B (w:=w) (G:=G) h k x.2 c2 h2 u hu
theorem a8W {w:World} {G:Nat→Prop} {n:Nat}:∀ (t:Ty),t.hasSl=false→∀ {x:t.D} {cs:List Value},Enc w G t x cs→∀ u∈cs,c9K n u:=by
 intro t
 induction t with
 | int k=>intro _ x cs h u hu; simp only [Enc] at h; subst h; simp only [List.mem_singleton] at hu; subst hu; intro ad l cap h; cases h
 | bool=>intro _ x cs h u hu; simp only [Enc] at h; subst h; simp only [List.mem_singleton] at hu; subst hu; intro ad l cap h; cases h
 | str=>intro _ x cs h u hu; obtain ⟨h,_⟩:=h; subst h; simp only [List.mem_singleton] at hu; subst hu; intro ad l cap h; cases h
 | nil=>intro _ x cs h u hu; simp only [Enc] at h; subst h; simp at hu
 | opq=>intro _ x cs h; exact h.elim
 | fnc=>intro _ x cs h u hu; simp only [Enc] at h; subst h; simp only [List.mem_singleton] at hu; subst hu; intro ad l cap h; rcases g4C _ h with h | ⟨f,h⟩<;>cases h
 | sl t _=>intro h; cases h
 | cons a b iha ihb =>
  intro hs x cs h u hu
  simp only [Ty.hasSl,Bool.or_eq_false_iff] at hs
  obtain ⟨c1,c2,rfl,h1,h2⟩:=h
  rcases List.mem_append.1 hu with hu | hu
  ·
   exact iha hs.1 h1 u hu
  ·
   exact ihb hs.2 h2 u hu
 | arr k t ih =>
  intro hs x cs h u hu
  exact d1B (w:=w) (G:=G) (fun x cs h=>ih hs h) k x cs h u hu
theorem e5H {c1 c2:Cx} {n:Nat} (hw:c2.w=c1.w) (hG:∀ r,c1.G r→n≤r→c2.G r):∀ (l:List Sh) (x:ShD l) (vs:List Value),l.all a4Q=true→d8H c1 ((a1W l x).foldr .pair (.val .nil ())) vs→(∀ u∈vs,c9K n u)→d8H c2 ((a1W l x).foldr .pair (.val .nil ())) vs
 | [],_,vs,_,h,_=>h
 | .pl t::l,x,vs,hl,h,hf=>by
  simp only [List.all_cons,Bool.and_eq_true] at hl
  obtain ⟨cs,vs',e,h1,h2⟩:=h
  subst e
  refine ⟨cs,vs',rfl,?_,e5H hw hG l x.2 vs' hl.2 h2 fun u hu=>hf u (List.mem_cons_of_mem _ hu)⟩
  have hu:=hf _ (List.mem_cons_self)
  show Enc c2.w c2.G t x.1 cs
  rw [hw]
  refine e3I hl.1 h1 (fun u hu'=>?_) hG
  cases t with
  | sl t =>
   obtain ⟨a,cp,e,_⟩:=h1
   subst e
   simp only [List.mem_singleton] at hu'
   subst hu'
   exact hu
  | int k=>simp only [a1J,Enc] at h1; subst h1; simp only [List.mem_singleton] at hu'; subst hu'; intro ad l cap h; cases h
  | bool=>simp only [a1J,Enc] at h1; subst h1; simp only [List.mem_singleton] at hu'; subst hu'; intro ad l cap h; cases h
  | str=>obtain ⟨h1,_⟩:=h1; subst h1; simp only [List.mem_singleton] at hu'; subst hu'; intro ad l cap h; cases h
  | opq=>exact h1.elim
  | fnc=>exact a8W .fnc rfl h1 u hu'
  | nil=>simp only [a1J,Enc] at h1; subst h1; simp at hu'
  | cons a b=>exact a8W (.cons a b) (by simpa [a4Q,c7A] using hl.1) h1 u hu'
  | arr k t=>exact a8W (.arr k t) (by simpa [a4Q,c7A] using hl.1) h1 u hu'
 | .bp _::_,_,_,hl,_,_=>by simp [a4Q] at hl
 | .pair _ _::_,_,_,hl,_,_=>by simp [a4Q] at hl
 | .ptr _ _::_,_,_,hl,_,_=>by simp [a4Q] at hl
 | .npt::_,_,_,hl,_,_=>by simp [a4Q] at hl
 | .whole _::_,_,_,hl,_,_=>by simp [a4Q] at hl
 | .fn _::_,_,_,hl,_,_=>by simp [a4Q] at hl
 | .iface _ _::_,_,_,hl,_,_=>by simp [a4Q] at hl
 | .clo _ _::_,_,_,hl,_,_=>by simp [a4Q] at hl
 | .dead::_,_,_,hl,_,_=>by simp [a4Q] at hl
theorem g5O {c1 c2:Cx} {n:Nat} (hw:c2.w=c1.w) (hG:∀ r,c1.G r→n≤r→c2.G r) (l:List Sh) (x:ShD l) (hl:l.all a4Q=true) {v:Value} (hv:VOk c1 (tuple (a1W l x)) v) (hf:e4G n v):VOk c2 (tuple (a1W l x)) v:=by
 match l,x,hl,hv with
 | [],_,_,hv=>exact hv
 | [.pl t],x,hl,hv =>
  obtain ⟨cs,h1,e⟩:=hv
  refine ⟨cs,?_,e⟩
  simp only [List.all_cons,Bool.and_eq_true] at hl
  show Enc c2.w c2.G t x.1 cs
  rw [hw]
  refine e3I hl.1 h1 (fun u hu=>?_) hG
  cases t with
  | sl t =>
   obtain ⟨a,cp,e',_⟩:=h1
   subst e'
   simp only [List.mem_singleton] at hu
   subst hu
   have e:v=.slice a _ cp:=e
   subst e
   exact hf.1
  | int k=>exact a8W (.int k) rfl h1 u hu
  | bool=>exact a8W .bool rfl h1 u hu
  | str=>exact a8W .str rfl h1 u hu
  | opq=>exact h1.elim
  | fnc=>exact a8W .fnc rfl h1 u hu
  | nil=>exact a8W .nil rfl h1 u hu
  | cons a b=>exact a8W (.cons a b) (by simpa [a4Q,c7A] using hl.1) h1 u hu
  | arr k t=>exact a8W (.arr k t) (by simpa [a4Q,c7A] using hl.1) h1 u hu
 | .pl t::.pl u::r,x,hl,hv =>
  obtain ⟨vs,e,h⟩:=hv
  exact ⟨vs,e,e5H hw hG (.pl t::.pl u::r) x vs hl h fun u hu=>hf.2 _ e u (by simpa using hu)⟩
 | .bp _::_,_,hl,_=>simp [a4Q] at hl
 | .pair _ _::_,_,hl,_=>simp [a4Q] at hl
 | .ptr _ _::_,_,hl,_=>simp [a4Q] at hl
 | .npt::_,_,hl,_=>simp [a4Q] at hl
 | .whole _::_,_,hl,_=>simp [a4Q] at hl
 | .fn _::_,_,hl,_=>simp [a4Q] at hl
 | .iface _ _::_,_,hl,_=>simp [a4Q] at hl
 | .clo _ _::_,_,hl,_=>simp [a4Q] at hl
 | .dead::_,_,hl,_=>simp [a4Q] at hl
 | .pl _::.bp _::_,_,hl,_=>simp [a4Q] at hl
 | .pl _::.pair _ _::_,_,hl,_=>simp [a4Q] at hl
 | .pl _::.ptr _ _::_,_,hl,_=>simp [a4Q] at hl
 | .pl _::.npt::_,_,hl,_=>simp [a4Q] at hl
 | .pl _::.whole _::_,_,hl,_=>simp [a4Q] at hl
 | .pl _::.fn _::_,_,hl,_=>simp [a4Q] at hl
 | .pl _::.iface _ _::_,_,hl,_=>simp [a4Q] at hl
 | .pl _::.clo _ _::_,_,hl,_=>simp [a4Q] at hl
 | .pl _::.dead::_,_,hl,_=>simp [a4Q] at hl
section
variable {P:Program} {base:World} {G0 own0:Nat→Prop} {o:Oper} {a:Act} {c:Cx}
theorem e2I (hM:Mem base G0 own0 c) {f:FuncId} {us:List Value} (hex:(execOp a.eval o).run P c.w=(callFunc f us.toArray).run P c.w) {C:Con} (hC:c2J P f C) (hin:C.In.heap=[]) (hout:C.Out.heap=[]) (hsh:C.Out.slots.all a4Q=true)
  {vs:List PV} (ha:All2 (VOk c) vs us) (hlen:vs.length=C.In.slots.length)
  {x:C.In.D} {m:Mt} (hx:C.In.ext vs c.H=some (x,m)) {y:C.Out.D} (hy:C.F x=some y) :
  a4W P base G0 own0 o a c (tuple (a1W C.Out.slots y.1)) []:=by
 obtain ⟨t1,t2,t3,t4,t5,t6⟩:=f7O hM.blk hx
 obtain ⟨hblk,hargs⟩:=t6 (b3D c m.lent) (fun r h=>h)
 obtain ⟨us',e1,e2,hargs⟩:=hargs _ ha
 have hll:us.length=C.In.slots.length:=by
  rw [← hlen]
  have:∀ (vs:List PV) (us:List Value),All2 (VOk c) vs us→us.length=vs.length:=by
   intro vs
   induction vs with
   | nil=>intro us h; cases us with | nil=>rfl | cons _ _=>exact h.elim
   | cons v vs ih=>intro us h; cases us with | nil=>exact h.elim | cons u us=>simp [ih us h.2]
  exact this vs _ ha
 have e1:us=us':=by
  rw [List.drop_of_length_le (by omega)] at e1
  simpa using e1
 subst e1
 have hdead:∀ b,a0L (b2T c C.In x m (b3D c m.lent)).H b=.unborn:=fun b=>b6S _ _ (by show (a3K C.In.heap x.2).length≤b; rw [b0S,hin]; simp)
 have hGl:∀ r,b3D c m.lent r→r<c.w.heap.size:=by
  rintro r (h | ⟨b,hb,hl,he⟩)
  ·
   rw [hM.G] at h; exact h.2.1
  ·
   exact (hM.blk b).lt hl he
 have hS:Start (b2T c C.In x m (b3D c m.lent)):=by
  refine ⟨hblk,fun b b' r h=>(by rw [hdead b] at h; cases h),fun r hr=>⟨hGl r hr,fun b h=>(by rw [hdead b] at h; cases h)⟩⟩
 have hcall:=hC x y hy _ _ hS rfl hargs
 have after:∀ v w',((∃ c':Cx,c'.w=w'∧c'.H=a3K C.Out.heap y.2∧VOk c' (tuple (a1W C.Out.slots y.1)) v∧Mem c.w (f9C (b2T c C.In x m (b3D c m.lent))) (d0H (b2T c C.In x m (b3D c m.lent))) c')∧e4G c.w.heap.size v) →
   ∃ c2:Cx,c2.w=w'∧Ext c c2∧Mem base G0 own0 c2∧c2.H=a2I c.H []∧VOk c2 (tuple (a1W C.Out.slots y.1)) v:=by
  rintro v w' ⟨⟨c',rfl,hH',hv',hM'⟩,hfr⟩
  have hT:Turn base G0 own0 c (Cx.next base G0 c'.w c.ρ c.H) (fun _=>False):=by
   refine ⟨hM'.os,hM'.tape,hM'.output,hM'.size,fun _ _=>rfl,fun _ _=>rfl,fun r hr _=>?_,fun _ h=>h.elim,fun _ _ h=>h.elim,fun _ _ _ h=>h.elim,rfl⟩
   refine hM'.frame r hr fun ⟨b,hb,_⟩=>?_
   rw [hdead b] at hb; cases hb
  refine ⟨Cx.next base G0 c'.w c.ρ c.H,rfl,hT.ext hM,hT.mem hM fun _ h=>h.elim,rfl,g5O (c1:=c') (c2:=Cx.next base G0 c'.w c.ρ c.H) rfl (fun r hr hge=>?_) _ _ hsh hv' hfr⟩
  rw [hM'.G] at hr
  refine ⟨.inr (by have:=hM.size; omega),hr.2.1,fun j hl he=>?_⟩
  have hl:live (a0L c.H j)=true:=hl
  have he:a6C (c.ρ j)=some r:=he
  have:=(hM.blk j).lt hl he
  omega
 intro K Q hK
 unfold Oper.wp
 rw [hex]
 rcases hcall with ⟨v,w',hr,hR⟩ | ⟨hr,hR⟩
 ·
  have hr:(callFunc f us.toArray).run P c.w=.ok (.value v) w':=hr
  rw [hr]
  obtain ⟨c2,rfl,g1,g2,g3,g4⟩:=after v w' hR
  exact hK v c2 g1 g2 g3 g4
 ·
  have hr:(callFunc f us.toArray).run P c.w=.ok (.enter f us.toArray) c.w:=hr
  rw [hr]
  refine Calls.mono hR ?_
  rintro e w' ⟨v,rfl,hR⟩
  obtain ⟨c2,rfl,g1,g2,g3,g4⟩:=after v w' hR
  exact hK v c2 g1 g2 g3 g4
end
end Sym

/- What an operation reads of the heap: the blocks that its operands name. -/
namespace Sym
open Go
def Ag (H H':List Blk) (l:List Nat):Prop:=∀ b,b∈l→a0L H' b=a0L H b
theorem Ag.left {H H':List Blk} {l r:List Nat} (h:Ag H H' (l++r)):Ag H H' l:=fun b hb=>h b (by simp [hb])
theorem Ag.right {H H':List Blk} {l r:List Nat} (h:Ag H H' (l++r)):Ag H H' r:=fun b hb=>h b (by simp [hb])
theorem Ag.one {H H':List Blk} {b:Nat} {r:List Nat} (h:Ag H H' (b::r)):a0L H' b=a0L H b:=h b (by simp)
theorem b8I {H H':List Blk}:∀ (t:Ty) (v:PV),Ag H H' (b9H v)→a4E H' t v=a4E H t v:=by
 intro t
 induction t with
 | cons a b iha ihb =>
  intro v h
  cases v with
  | pair p q=>simp only [a4E]; rw [iha p (h.left),ihb q (h.right)]
  | _=>rfl
 | sl t _ =>
  intro v h
  cases v with
  | whole b=>simp only [a4E]; rw [h.one]
  | row b lo n=>simp only [a4E]; rw [h.one]
  | aview b p lo n=>simp only [a4E]; rw [h.one]
  | _=>rfl
 | _=>intro v h; cases v<;>rfl
theorem c8O {H:List Blk}:∀ (t:Ty) (v:PV) (x:t.D) (l:List Nat),a4E H t v=some (x,l)→∀ b∈l,b∈b9H v:=by
 intro t
 have cv:∀ (t u:Ty) (y:u.D) (x:t.D) (l:List Nat),(match Ty.cast u t y with | some z=>some (z,([]:List Nat)) | none=>none)=some (x,l)→l=[]:=by
  intro t u y x l h
  split at h
  ·
   simp only [Option.some.injEq,Prod.mk.injEq] at h; exact h.2.symm
  ·
   cases h
 induction t with
 | cons a b iha ihb =>
  intro v x l h
  cases v with
  | pair p q =>
   simp only [a4E] at h
   split at h
   ·
    rename_i y z hy hz
    have h:=Option.some.inj h
    obtain ⟨_,rfl⟩:=Prod.mk.inj h
    intro b hb
    simp only [List.mem_append,b9H] at hb ⊢
    exact hb.imp (iha p y.1 y.2 hy b) (ihb q z.1 z.2 hz b)
   ·
    cases h
  | val u y=>simp only [a4E] at h; rw [cv _ _ _ _ _ h]; simp
  | _=>simp [a4E] at h
 | sl t _ =>
  intro v x l h
  cases v with
  | val u y=>simp only [a4E] at h; rw [cv _ _ _ _ _ h]; simp
  | nils=>simp only [a4E,Option.some.injEq,Prod.mk.injEq] at h; obtain ⟨_,rfl⟩:=h; simp
  | whole b =>
   simp only [a4E] at h
   split at h
   ·
    split at h
    ·
     have h:=Option.some.inj h; obtain ⟨_,rfl⟩:=Prod.mk.inj h; simp [b9H]
    ·
     cases h
   ·
    cases h
  | row b lo n =>
   simp only [a4E] at h
   split at h
   ·
    split at h
    ·
     have h:=Option.some.inj h; obtain ⟨_,rfl⟩:=Prod.mk.inj h; simp [b9H]
    ·
     cases h
   ·
    cases h
  | aview b p lo n =>
   simp only [a4E] at h
   split at h
   ·
    split at h
    ·
     split at h
     ·
      have h:=Option.some.inj h; obtain ⟨_,rfl⟩:=Prod.mk.inj h; simp [b9H]
     ·
      cases h
    ·
     cases h
   ·
    cases h
  | _=>simp [a4E] at h
 | _ =>
  intro v x l h
  cases v with
  | val u y=>simp only [a4E] at h; rw [cv _ _ _ _ _ h]; simp
  | _=>first
   | (simp [a4E] at h; done)
   | (simp only [a4E] at h; obtain ⟨_,rfl⟩:=Prod.mk.inj (Option.some.inj h); simp)
theorem e8O {H H':List Blk} (v:PV) (h:Ag H H' (b9H v)):a9K H' v=a9K H v:=by
 cases v with
 | whole b=>simp only [a9K]; rw [h.one]
 | row b lo n=>simp only [a9K]; rw [h.one]
 | aview b p lo n=>simp only [a9K]; rw [h.one]
 | val t x=>cases t<;>rfl
 | _=>rfl
theorem e2C {H H':List Blk} {b:Nat} (h:a0L H' b=a0L H b) (p:List Step) (t:Ty):d3W H' b p t=d3W H b p t:=by
 unfold d3W; rw [h]
theorem d9I {H H':List Blk} (t:Ty):∀ (r:List (Nat×PV)) (l:List t.D),(∀ p∈r,Ag H H' (b9H p.2))→b9K H' t l r=b9K H t l r
 | [],_,_=>rfl
 | (i,u)::r,l,h=>by
  simp only [b9K]
  rw [b8I t u (h (i,u) (by simp))]
  split
  ·
   split
   ·
    rename_i x b _
    rw [d9I t r (setAt l i x) fun p hp=>h p (by simp [hp])]
   ·
    rfl
  ·
   rfl
theorem d8Q {H H':List Blk} (t:Ty) {n:Nat}:∀ (r:List (Nat×PV)) (l:Arr t.D n),(∀ p∈r,Ag H H' (b9H p.2))→b9M H' t n l r=b9M H t n l r
 | [],_,_=>rfl
 | (i,u)::r,l,h=>by
  simp only [b9M]
  rw [b8I t u (h (i,u) (by simp))]
  split
  ·
   split
   ·
    rename_i x b _
    rw [d8Q t r (Arr.upd n l i x) fun p hp=>h p (by simp [hp])]
   ·
    rfl
  ·
   rfl
theorem f8O {H H':List Blk}:∀ (is:List Nat) (vs:List PV),Ag H H' (a9I vs)→∀ p∈b5Y is vs,Ag H H' (b9H p.2)
 | [],_,_,p,hp=>by simp [b5Y] at hp
 | _::_,[],_,p,hp=>by simp [b5Y] at hp
 | i::is,v::vs,h,p,hp=>by
  simp only [b5Y,List.mem_cons] at hp
  rcases hp with rfl | hp
  ·
   exact h.left
  ·
   exact f8O is vs h.right p hp
theorem d4J {H:List Blk} {c:Nat}:∀ {l:List Nat},c∈deep H l↔∃ b∈l,∃ t v,a0L H b=.box t v∧c∈b9H v
 | []=>by simp [deep]
 | b::l=>by
  simp only [deep,List.mem_append,d4J (l:=l),List.mem_cons,exists_eq_or_imp]
  refine or_congr ?_ Iff.rfl
  cases h:a0L H b with
  | box t v=>exact ⟨fun h'=>⟨t,v,rfl,h'⟩,fun ⟨_,_,e,h'⟩=>by injection e with e1 e2; subst e1; subst e2; exact h'⟩
  | _=>simp
theorem d5U {H:List Blk} {l l':List Nat} (hs:∀ b,b∈l→b∈l'):∀ b,b∈rdC H l→b∈rdC H l':=by
 intro b hb
 simp only [rdC,List.mem_append,d4J] at hb ⊢
 rcases hb with h | ⟨c,h,h'⟩
 ·
  exact .inl (hs b h)
 ·
  exact .inr ⟨c,hs c h,h'⟩
theorem Ag.sub {H H':List Blk} {l l':List Nat} (h:Ag H H' (rdC H l')) (hs:∀ b,b∈l→b∈l'):Ag H H' (rdC H l):=fun b hb=>h b (d5U hs b hb)
theorem Ag.flat {H H':List Blk} {l:List Nat} (h:Ag H H' (rdC H l)):Ag H H' l:=fun b hb=>h b (by simp [rdC,hb])
theorem d3L:∀ (v:PV) (p:List Step) (y:PV),b1J v p=some y→∀ b∈b9H y,b∈b9H v:=by
 intro v
 have gv:∀ (t:Ty) (x:t.D) (p:List Step) (y:PV),c0L t x p=some y→∃ u z,y=.val u z:=by
  intro t
  induction t with
  | cons a b iha ihb =>
   intro x p y h
   match p,h with
   | [],h=>exact ⟨_,_,(Option.some.inj h).symm⟩
   | .fld 0::p,h=>exact iha x.1 p y h
   | .fld (j+1)::p,h=>exact ihb x.2 (.fld j::p) y h
   | .idx i::p,h=>simp [c0L] at h
  | arr n t ih =>
   intro x p y h
   match p,h with
   | [],h=>exact ⟨_,_,(Option.some.inj h).symm⟩
   | .idx i::p,h =>
    simp only [c0L] at h
    first | exact ih _ p y h | (split at h<;>first | exact ih _ p y h | cases h)
   | .fld j::p,h=>simp [c0L] at h
  | _ =>
   intro x p y h
   match p,h with
   | [],h=>exact ⟨_,_,(Option.some.inj h).symm⟩
   | a::p,h=>cases a<;>simp [c0L] at h
 induction v with
 | pair a c iha ihc =>
  intro p y h b hb
  match p,h with
  | [],h=>have:=Option.some.inj h; subst this; exact hb
  | .fld 0::p,h=>simp only [b9H,List.mem_append]; exact .inl (iha p y h b hb)
  | .fld (j+1)::p,h=>simp only [b9H,List.mem_append]; exact .inr (ihc (.fld j::p) y h b hb)
  | .idx i::p,h=>simp [b1J] at h
 | val t x =>
  intro p y h b hb
  match p,h with
  | [],h=>have:=Option.some.inj h; subst this; exact hb
  | a::p,h =>
   have h:c0L t x (a::p)=some y:=by
    cases a with
    | fld j=>cases j<;>exact h
    | idx i=>exact h
   obtain ⟨u,z,rfl⟩:=gv t x _ y h
   simp [b9H] at hb
 | _ =>
  intro p y h b hb
  cases p with
  | nil=>have:=Option.some.inj h; subst this; exact hb
  | cons a p=>simp [b1J] at h
theorem g8X {H H':List Blk} {t:Ty} {b:Nat} {p:List Step} (h:Ag H H' (rdC H [b])):f6V H' t b p=f6V H t b p:=by
 have h0:=h b (by simp [rdC])
 unfold f6V
 rw [h0]
 cases hb:a0L H b with
 | box s v =>
  simp only
  cases hg:b1J v p with
  | none=>rfl
  | some y =>
   simp only
   rw [b8I t y fun c hc=>h c (by simp only [rdC,List.mem_append,d4J]; exact .inr ⟨b,by simp,s,v,hb,d3L v p y hg c hc⟩)]
 | _=>rfl
theorem f4R {H:List Blk} {t:Ty} {b:Nat} {p:List Step} {x:t.D} {l:List Nat} (h:f6V H t b p=some (x,l)):∀ c∈l,c∈rdC H [b]:=by
 unfold f6V at h
 cases hb:a0L H b with
 | box s v =>
  simp only [hb] at h
  split at h
  ·
   rename_i y hg
   split at h
   ·
    rename_i z l' hz
    have h:=Option.some.inj h
    obtain ⟨_,rfl⟩:=Prod.mk.inj h
    intro c hc
    simp only [List.mem_cons] at hc
    rcases hc with rfl | hc
    ·
     simp [rdC]
    ·
     simp only [rdC,List.mem_append,d4J]
     exact .inr ⟨b,by simp,s,v,hb,d3L v p y hg c (c8O t y z l' hz c hc)⟩
   ·
    cases h
  ·
   cases h
 | _=>simp [hb] at h
theorem f9Z {H H':List Blk}:∀ (s:Sh) (v:PV) (m:Mt),Ag H H' (rdC H (b9H v))→s.ext H' v m=s.ext H v m:=by
 intro s
 induction s with
 | pl t=>intro v m h; simp only [Sh.ext]; rw [b8I t v h.flat]
 | bp t =>
  intro v m h
  cases v with
  | ptr b p=>simp only [Sh.ext]; rw [g8X h]
  | _=>rfl
 | pair a b iha ihb =>
  intro v m h
  cases v with
  | pair p q =>
   simp only [Sh.ext]
   rw [iha p m (h.sub fun b hb=>by simp [b9H,hb])]
   split
   ·
    rename_i x m1 _; rw [ihb q m1 (h.sub fun b hb=>by simp [b9H,hb])]
   ·
    rfl
  | _=>rfl
 | iface t s ih =>
  intro v m h
  cases v with
  | iface u w=>simp only [Sh.ext]; rw [ih w m h]
  | _=>rfl
 | clo f s ih =>
  intro v m h
  cases v with
  | clo g w=>simp only [Sh.ext]; rw [ih w m h]
  | _=>rfl
 | _=>intro v m h; cases v<;>rfl
theorem d6S {H H':List Blk}:∀ (l:List Sh) (vs:List PV) (m:Mt),Ag H H' (rdC H (a9I vs))→a7M H' l vs m=a7M H l vs m
 | [],_,_,_=>rfl
 | _::_,[],_,_=>rfl
 | s::l,v::vs,m,h=>by
  simp only [a7M]
  have:s.ext' H' v m=s.ext' H v m:=by
   cases s<;>first | rfl | exact f9Z _ v m (h.sub fun b hb=>by simp [a9I,hb])
  rw [this]
  split
  ·
   rename_i x m1 _; rw [d6S l vs m1 (h.sub fun b hb=>by simp [a9I,hb])]
  ·
   rfl
theorem g1N {H:List Blk}:∀ (s:Sh) (v:PV) (m:Mt) (x:s.D) (m':Mt),s.ext H v m=some (x,m')→∀ b∈m'.lent,b∈m.lent∨b∈rdC H (b9H v):=by
 intro s
 induction s with
 | pl t =>
  intro v m x m' h
  simp only [Sh.ext] at h
  split at h
  ·
   rename_i y l hy
   have h:=Option.some.inj h
   obtain ⟨_,rfl⟩:=Prod.mk.inj h
   intro b hb
   simp only [List.mem_append] at hb
   exact hb.symm.imp id fun h=>by simp [rdC,c8O t v y l hy b h]
  ·
   cases h
 | bp t =>
  intro v m x m' h
  cases v with
  | bptr u y =>
   simp only [Sh.ext] at h
   split at h
   ·
    have h:=Option.some.inj h; obtain ⟨_,rfl⟩:=Prod.mk.inj h; intro b hb; exact .inl hb
   ·
    cases h
  | ptr b0 p =>
   simp only [Sh.ext] at h
   split at h
   ·
    rename_i y l hy
    have h:=Option.some.inj h; obtain ⟨_,rfl⟩:=Prod.mk.inj h
    intro b hb
    simp only [List.mem_append] at hb
    exact hb.symm.imp id fun h=>f4R hy b h
   ·
    cases h
  | _=>simp [Sh.ext] at h
 | pair a c iha ihb =>
  intro v m x m' h
  cases v with
  | pair p q =>
   simp only [Sh.ext] at h
   split at h
   ·
    rename_i y m1 hy
    split at h
    ·
     rename_i z m2 hz
     have h:=Option.some.inj h
     obtain ⟨_,rfl⟩:=Prod.mk.inj h
     intro b hb
     rcases ihb q m1 z m2 hz b hb with h | h
     ·
      exact (iha p m y m1 hy b h).imp id fun h=>d5U (fun b hb=>by simp [b9H,hb]) b h
     ·
      exact .inr (d5U (fun b hb=>by simp [b9H,hb]) b h)
    ·
     cases h
   ·
    cases h
  | _=>simp [Sh.ext] at h
 | ptr b0 p =>
  intro v m x m' h
  cases v with
  | ptr c q =>
   simp only [Sh.ext] at h
   split at h
   ·
    split at h
    ·
     have h:=Option.some.inj h; obtain ⟨_,rfl⟩:=Prod.mk.inj h; intro b hb; exact .inl hb
    ·
     cases h
   ·
    cases h
  | _=>simp [Sh.ext] at h
 | npt =>
  intro v m x m' h
  cases v with
  | npt=>simp only [Sh.ext] at h; have h:=Option.some.inj h; obtain ⟨_,rfl⟩:=Prod.mk.inj h; intro b hb; exact .inl hb
  | _=>simp [Sh.ext] at h
 | whole b0 =>
  intro v m x m' h
  cases v with
  | whole c =>
   simp only [Sh.ext] at h
   split at h
   ·
    have h:=Option.some.inj h; obtain ⟨_,rfl⟩:=Prod.mk.inj h; intro b hb; exact .inl hb
   ·
    cases h
  | _=>simp [Sh.ext] at h
 | fn f =>
  intro v m x m' h
  cases v with
  | fn g =>
   simp only [Sh.ext] at h
   split at h
   ·
    have h:=Option.some.inj h; obtain ⟨_,rfl⟩:=Prod.mk.inj h; intro b hb; exact .inl hb
   ·
    cases h
  | _=>simp [Sh.ext] at h
 | iface t s ih =>
  intro v m x m' h
  cases v with
  | iface u w =>
   simp only [Sh.ext] at h
   split at h
   ·
    exact ih w m x m' h
   ·
    cases h
  | _=>simp [Sh.ext] at h
 | clo f s ih =>
  intro v m x m' h
  cases v with
  | clo g w =>
   simp only [Sh.ext] at h
   split at h
   ·
    exact ih w m x m' h
   ·
    cases h
  | _=>simp [Sh.ext] at h
 | dead=>intro v m x m' h; cases v<;>simp [Sh.ext] at h
theorem c8U {H:List Blk}:∀ (l:List Sh) (vs:List PV) (m:Mt) (x:ShD l) (m':Mt),a7M H l vs m=some (x,m')→∀ b∈m'.lent,b∈m.lent∨b∈rdC H (a9I vs)
 | [],vs,m,x,m',h,b,hb=>by
  simp only [a7M,Option.some.injEq,Prod.mk.injEq] at h
  obtain ⟨_,rfl⟩:=h
  exact .inl hb
 | _::_,[],_,_,_,h,_,_=>by simp [a7M] at h
 | s::l,v::vs,m,x,m',h,b,hb=>by
  simp only [a7M] at h
  split at h
  ·
   rename_i y m1 hy
   split at h
   ·
    rename_i z m2 hz
    have h:=Option.some.inj h
    obtain ⟨_,rfl⟩:=Prod.mk.inj h
    rcases c8U l vs m1 z m2 hz b hb with h1 | h1
    ·
     have:b∈m.lent∨b∈rdC H (b9H v):=by
      cases s with
      | dead=>simp only [Sh.ext',Option.some.injEq,Prod.mk.injEq] at hy; obtain ⟨_,rfl⟩:=hy; exact .inl h1
      | _=>exact g1N _ v m y m1 hy b h1
     exact this.imp id fun h=>d5U (fun b hb=>by simp [a9I,hb]) b h
    ·
     exact .inr (d5U (fun b hb=>by simp [a9I,hb]) b h1)
   ·
    cases h
  ·
   cases h
theorem f0L {H H':List Blk} {τ:Tm} (hin:τ.heap=[]) (vs:List PV) (h:Ag H H' (rdC H (a9I vs))):τ.ext vs H'=τ.ext vs H:=by
 obtain ⟨ss,hs⟩:=τ
 simp only at hin
 subst hin
 unfold Tm.ext Tm.extF
 simp only
 rw [d6S ss vs _ h]
 split
 ·
  rename_i x m1 hx
  simp only [b7Y]
  have:m1.okb H' 0=m1.okb H 0:=by
   unfold Mt.okb
   congr 1
   have:∀ b∈m1.lent,a0L H' b=a0L H b:=fun b hb=>h b ((c8U ss vs _ x m1 hx b hb).resolve_left (by simp))
   generalize m1.lent=l at this
   induction l with
   | nil=>rfl
   | cons b l ih=>simp only [List.all_cons]; rw [this b (by simp),ih fun c hc=>this c (by simp [hc])]
  simp only [List.length_nil]
  rw [this]
 ·
  rfl
end Sym

/- Calls by contract whose arguments point to blocks of the caller's own. -/
namespace Sym
open Go
theorem f0Y {H H':List Blk}:∀ (t:Ty) (v:PV) (x:t.D) (l:List Nat),a4E H t v=some (x,l)→(∀ b∈l,a0L H' b=a0L H b)→a4E H' t v=some (x,l):=by
 intro t
 induction t with
 | cons a b iha ihb =>
  intro v x l h hl
  cases v with
  | pair p q =>
   simp only [a4E] at h ⊢
   split at h
   ·
    rename_i y z hy hz
    have h:=Option.some.inj h
    obtain ⟨rfl,rfl⟩:=Prod.mk.inj h
    rw [iha p y.1 y.2 hy fun b hb=>hl b (by simp [hb]),ihb q z.1 z.2 hz fun b hb=>hl b (by simp [hb])]
   ·
    cases h
  | _=>exact h
 | sl t _ =>
  intro v x l h hl
  cases v with
  | whole b =>
   have hb:l=[b]:=by
    simp only [a4E] at h
    split at h
    ·
     split at h
     ·
      have h:=Option.some.inj h; exact (Prod.mk.inj h).2.symm
     ·
      cases h
    ·
     cases h
   have:=hl b (by rw [hb]; simp)
   simp only [a4E] at h ⊢
   rw [this]; exact h
  | row b lo n =>
   have hb:l=[b]:=by
    simp only [a4E] at h
    split at h
    ·
     split at h
     ·
      have h:=Option.some.inj h; exact (Prod.mk.inj h).2.symm
     ·
      cases h
    ·
     cases h
   have:=hl b (by rw [hb]; simp)
   simp only [a4E] at h ⊢
   rw [this]; exact h
  | aview b p lo n =>
   have hb:l=[b]:=by
    simp only [a4E] at h
    split at h
    ·
     split at h
     ·
      split at h
      ·
       have h:=Option.some.inj h; exact (Prod.mk.inj h).2.symm
      ·
       cases h
     ·
      cases h
    ·
     cases h
   have:=hl b (by rw [hb]; simp)
   simp only [a4E] at h ⊢
   rw [this]; exact h
  | _=>exact h
 | _=>intro v x l h hl; cases v<;>exact h
theorem e1X {H:List Blk}:∀ (s:Sh) (v:PV) (m m':Mt) (x:s.D),s.ext H v m=some (x,m')→∀ b∈m.lent,b∈m'.lent:=by
 intro s
 induction s with
 | pl t =>
  intro v m m' x h b hb
  simp only [Sh.ext] at h
  split at h
  ·
   have h:=Option.some.inj h; obtain ⟨_,rfl⟩:=Prod.mk.inj h; simp [hb]
  ·
   cases h
 | bp t =>
  intro v m m' x h b hb
  cases v with
  | bptr u y =>
   simp only [Sh.ext] at h
   split at h
   ·
    have h:=Option.some.inj h; obtain ⟨_,rfl⟩:=Prod.mk.inj h; exact hb
   ·
    cases h
  | ptr b0 p =>
   simp only [Sh.ext] at h
   split at h
   ·
    have h:=Option.some.inj h; obtain ⟨_,rfl⟩:=Prod.mk.inj h; simp [hb]
   ·
    cases h
  | _=>simp [Sh.ext] at h
 | pair a c iha ihc =>
  intro v m m' x h b hb
  cases v with
  | pair p q =>
   simp only [Sh.ext] at h
   split at h
   ·
    rename_i y m1 hy
    split at h
    ·
     rename_i z m2 hz
     have h:=Option.some.inj h; obtain ⟨_,rfl⟩:=Prod.mk.inj h
     exact ihc q m1 m2 z hz b (iha p m m1 y hy b hb)
    ·
     cases h
   ·
    cases h
  | _=>simp [Sh.ext] at h
 | ptr b0 p =>
  intro v m m' x h b hb
  cases v with
  | ptr c q =>
   simp only [Sh.ext] at h
   split at h
   ·
    split at h
    ·
     have h:=Option.some.inj h; obtain ⟨_,rfl⟩:=Prod.mk.inj h; exact hb
    ·
     cases h
   ·
    cases h
  | _=>simp [Sh.ext] at h
 | npt =>
  intro v m m' x h b hb
  cases v with
  | npt=>simp only [Sh.ext] at h; have h:=Option.some.inj h; obtain ⟨_,rfl⟩:=Prod.mk.inj h; exact hb
  | _=>simp [Sh.ext] at h
 | whole b0 =>
  intro v m m' x h b hb
  cases v with
  | whole c =>
   simp only [Sh.ext] at h
   split at h
   ·
    have h:=Option.some.inj h; obtain ⟨_,rfl⟩:=Prod.mk.inj h; exact hb
   ·
    cases h
  | _=>simp [Sh.ext] at h
 | fn f =>
  intro v m m' x h b hb
  cases v with
  | fn g =>
   simp only [Sh.ext] at h
   split at h
   ·
    have h:=Option.some.inj h; obtain ⟨_,rfl⟩:=Prod.mk.inj h; exact hb
   ·
    cases h
  | _=>simp [Sh.ext] at h
 | iface t s ih =>
  intro v m m' x h b hb
  cases v with
  | iface u w =>
   simp only [Sh.ext] at h
   split at h
   ·
    exact ih w m m' x h b hb
   ·
    cases h
  | _=>simp [Sh.ext] at h
 | clo f s ih =>
  intro v m m' x h b hb
  cases v with
  | clo g w =>
   simp only [Sh.ext] at h
   split at h
   ·
    exact ih w m m' x h b hb
   ·
    cases h
  | _=>simp [Sh.ext] at h
 | dead=>intro v m m' x h; cases v<;>simp [Sh.ext] at h
theorem g8I {H H':List Blk} {t:Ty} {b:Nat} {p:List Step} {x:t.D} {l:List Nat} (h:f6V H t b p=some (x,l)) (hl:∀ b∈l,a0L H' b=a0L H b):f6V H' t b p=some (x,l):=by
 unfold f6V at h ⊢
 cases hb:a0L H b with
 | box s v =>
  simp only [hb] at h
  split at h
  ·
   rename_i y hg
   split at h
   ·
    rename_i z l' hz
    have h:=Option.some.inj h
    obtain ⟨rfl,rfl⟩:=Prod.mk.inj h
    rw [hl b (by simp),hb]
    simp only [hg]
    rw [f0Y t y z l' hz fun c hc=>hl c (by simp [hc])]
   ·
    cases h
  ·
   cases h
 | _=>simp [hb] at h
theorem e8U {H H':List Blk}:∀ (s:Sh) (v:PV) (m m':Mt) (x:s.D),s.ext H v m=some (x,m')→(∀ b∈m'.lent,a0L H' b=a0L H b)→s.ext H' v m=some (x,m'):=by
 intro s
 induction s with
 | pl t =>
  intro v m m' x h hl
  simp only [Sh.ext] at h ⊢
  split at h
  ·
   rename_i y l hy
   have h:=Option.some.inj h; obtain ⟨rfl,rfl⟩:=Prod.mk.inj h
   rw [f0Y t v y l hy fun b hb=>hl b (by simp [hb])]
  ·
   cases h
 | bp t =>
  intro v m m' x h hl
  cases v with
  | ptr b p =>
   simp only [Sh.ext] at h ⊢
   split at h
   ·
    rename_i y l hy
    have h:=Option.some.inj h; obtain ⟨rfl,rfl⟩:=Prod.mk.inj h
    rw [g8I hy fun b hb=>hl b (by simp [hb])]
   ·
    cases h
  | _=>exact h
 | pair a c iha ihc =>
  intro v m m' x h hl
  cases v with
  | pair p q =>
   simp only [Sh.ext] at h ⊢
   split at h
   ·
    rename_i y m1 hy
    split at h
    ·
     rename_i z m2 hz
     have h:=Option.some.inj h; obtain ⟨rfl,rfl⟩:=Prod.mk.inj h
     rw [iha p m m1 y hy fun b hb=>hl b (e1X c q m1 m2 z hz b hb)]
     simp only
     rw [ihc q m1 m2 z hz hl]
    ·
     cases h
   ·
    cases h
  | _=>exact h
 | iface t s ih =>
  intro v m m' x h hl
  cases v with
  | iface u w =>
   simp only [Sh.ext] at h ⊢
   split at h
   ·
    rename_i hb; exact ih w m m' x h hl
   ·
    cases h
  | _=>exact h
 | clo f s ih =>
  intro v m m' x h hl
  cases v with
  | clo g w =>
   simp only [Sh.ext] at h ⊢
   split at h
   ·
    rename_i hb; exact ih w m m' x h hl
   ·
    cases h
  | _=>exact h
 | _=>intro v m m' x h hl; cases v<;>exact h
theorem f1N {H:List Blk}:∀ (l:List Sh) (vs:List PV) (m m':Mt) (x:ShD l),a7M H l vs m=some (x,m')→∀ b∈m.lent,b∈m'.lent
 | [],_,m,m',x,h,b,hb=>by
  simp only [a7M,Option.some.injEq,Prod.mk.injEq] at h
  obtain ⟨_,rfl⟩:=h; exact hb
 | _::_,[],_,_,_,h,_,_=>by simp [a7M] at h
 | s::l,v::vs,m,m',x,h,b,hb=>by
  simp only [a7M] at h
  split at h
  ·
   rename_i y m1 hy
   split at h
   ·
    rename_i z m2 hz
    have h:=Option.some.inj h; obtain ⟨_,rfl⟩:=Prod.mk.inj h
    refine f1N l vs m1 m2 z hz b ?_
    cases s with
    | dead=>simp only [Sh.ext',Option.some.injEq,Prod.mk.injEq] at hy; obtain ⟨_,rfl⟩:=hy; exact hb
    | _=>exact e1X _ v m m1 y hy b hb
   ·
    cases h
  ·
   cases h
theorem e8V {H H':List Blk}:∀ (l:List Sh) (vs:List PV) (m m':Mt) (x:ShD l),a7M H l vs m=some (x,m')→(∀ b∈m'.lent,a0L H' b=a0L H b)→a7M H' l vs m=some (x,m')
 | [],_,_,_,_,h,_=>h
 | _::_,[],_,_,_,h,_=>by simp [a7M] at h
 | s::l,v::vs,m,m',x,h,hl=>by
  simp only [a7M] at h ⊢
  split at h
  ·
   rename_i y m1 hy
   split at h
   ·
    rename_i z m2 hz
    have h:=Option.some.inj h; obtain ⟨rfl,rfl⟩:=Prod.mk.inj h
    have:s.ext' H' v m=some (y,m1):=by
     cases s with
     | dead=>exact hy
     | _=>exact e8U _ v m m1 y hy fun b hb=>hl b (f1N l vs m1 m2 z hz b hb)
    rw [this]
    simp only
    rw [e8V l vs m1 m2 z hz hl]
   ·
    cases h
  ·
   cases h
theorem e1Q {H:List Blk}:∀ (l:List BSh) (i:Nat) (m m':Mt) (y:f0T l),b7Y H l i m=some (y,m')→(∀ b∈m.lent,b∈m'.lent)∧∀ k j,m.σ.get k=some j→m'.σ.get k=some j
 | [],_,m,m',y,h=>by
  simp only [b7Y,Option.some.injEq,Prod.mk.injEq] at h
  obtain ⟨_,rfl⟩:=h; exact ⟨fun b hb=>hb,fun k j h=>h⟩
 | b::l,i,m,m',y,h=>by
  simp only [b7Y] at h
  split at h
  ·
   rename_i j hj
   split at h
   ·
    rename_i x m1 hx
    split at h
    ·
     rename_i z m2 hz
     have h:=Option.some.inj h; obtain ⟨_,rfl⟩:=Prod.mk.inj h
     obtain ⟨r1,r2⟩:=e1Q l (i+1) m1 m2 z hz
     have q:(∀ b∈m.lent,b∈m1.lent)∧∀ k j,m.σ.get k=some j→m1.σ.get k=some j:=by
      cases b with
      | box t s =>
       cases hB:a0L H j with
       | box u v =>
        rw [hB] at hx
        simp only [BSh.ext] at hx
        split at hx
        ·
         split at hx
         ·
          rename_i w m3 hw
          split at hx
          ·
           have hx:=Option.some.inj hx; obtain ⟨_,rfl⟩:=Prod.mk.inj hx
           refine ⟨e1X s v m m3 w hw,?_⟩
           have:∀ (s:Sh) (v:PV) (m m':Mt) (x:s.D),s.ext H v m=some (x,m')→∀ k j,m.σ.get k=some j→m'.σ.get k=some j:=by
            intro s
            induction s with
            | pl t =>
             intro v m m' x h k j hk
             simp only [Sh.ext] at h
             split at h
             ·
              have h:=Option.some.inj h; obtain ⟨_,rfl⟩:=Prod.mk.inj h; exact hk
             ·
              cases h
            | bp t =>
             intro v m m' x h k j hk
             cases v with
             | bptr u y =>
              simp only [Sh.ext] at h
              split at h
              ·
               have h:=Option.some.inj h; obtain ⟨_,rfl⟩:=Prod.mk.inj h; exact hk
              ·
               cases h
             | ptr b0 p =>
              simp only [Sh.ext] at h
              split at h
              ·
               have h:=Option.some.inj h; obtain ⟨_,rfl⟩:=Prod.mk.inj h; exact hk
              ·
               cases h
             | _=>simp [Sh.ext] at h
            | pair a c iha ihc =>
             intro v m m' x h k j hk
             cases v with
             | pair p q =>
              simp only [Sh.ext] at h
              split at h
              ·
               rename_i y m1 hy
               split at h
               ·
                rename_i z m2 hz
                have h:=Option.some.inj h; obtain ⟨_,rfl⟩:=Prod.mk.inj h
                exact ihc q m1 m2 z hz k j (iha p m m1 y hy k j hk)
               ·
                cases h
              ·
               cases h
             | _=>simp [Sh.ext] at h
            | ptr b0 p =>
             intro v m m' x h k j hk
             cases v with
             | ptr c q =>
              simp only [Sh.ext] at h
              split at h
              ·
               split at h
               ·
                rename_i σ' hσ
                have h:=Option.some.inj h; obtain ⟨_,rfl⟩:=Prod.mk.inj h; exact (d1O hσ).2 k j hk
               ·
                cases h
              ·
               cases h
             | _=>simp [Sh.ext] at h
            | npt =>
             intro v m m' x h k j hk
             cases v with
             | npt=>simp only [Sh.ext] at h; have h:=Option.some.inj h; obtain ⟨_,rfl⟩:=Prod.mk.inj h; exact hk
             | _=>simp [Sh.ext] at h
            | whole b0 =>
             intro v m m' x h k j hk
             cases v with
             | whole c =>
              simp only [Sh.ext] at h
              split at h
              ·
               rename_i σ' hσ
               have h:=Option.some.inj h; obtain ⟨_,rfl⟩:=Prod.mk.inj h; exact (d1O hσ).2 k j hk
              ·
               cases h
             | _=>simp [Sh.ext] at h
            | fn f =>
             intro v m m' x h k j hk
             cases v with
             | fn g =>
              simp only [Sh.ext] at h
              split at h
              ·
               have h:=Option.some.inj h; obtain ⟨_,rfl⟩:=Prod.mk.inj h; exact hk
              ·
               cases h
             | _=>simp [Sh.ext] at h
            | iface t s ih =>
             intro v m m' x h k j hk
             cases v with
             | iface u w =>
              simp only [Sh.ext] at h
              split at h
              ·
               exact ih w m m' x h k j hk
              ·
               cases h
             | _=>simp [Sh.ext] at h
            | clo f s ih =>
             intro v m m' x h k j hk
             cases v with
             | clo g w =>
              simp only [Sh.ext] at h
              split at h
              ·
               exact ih w m m' x h k j hk
              ·
               cases h
             | _=>simp [Sh.ext] at h
            | dead=>intro v m m' x h; cases v<;>simp [Sh.ext] at h
           exact this s v m m3 w hw
          ·
           cases hx
         ·
          cases hx
        ·
         cases hx
       | _=>rw [hB] at hx; simp [BSh.ext] at hx
      | row t =>
       cases hB:a0L H j with
       | row u r =>
        rw [hB] at hx
        simp only [BSh.ext] at hx
        split at hx
        ·
         have hx:=Option.some.inj hx; obtain ⟨_,rfl⟩:=Prod.mk.inj hx
         exact ⟨fun b hb=>hb,fun k j h=>h⟩
        ·
         cases hx
       | _=>rw [hB] at hx; simp [BSh.ext] at hx
     exact ⟨fun b hb=>r1 b (q.1 b hb),fun k j hk=>r2 k j (q.2 k j hk)⟩
    ·
     cases h
   ·
    cases h
  ·
   cases h
theorem f8V {H H':List Blk}:∀ (l:List BSh) (i:Nat) (m m':Mt) (y:f0T l),b7Y H l i m=some (y,m')→(∀ b∈m'.lent,a0L H' b=a0L H b)→(∀ k j,m'.σ.get k=some j→a0L H' j=a0L H j)→b7Y H' l i m=some (y,m')
 | [],_,_,_,_,h,_,_=>h
 | b::l,i,m,m',y,h,hl,hσ=>by
  simp only [b7Y] at h ⊢
  split at h
  ·
   rename_i j hj
   split at h
   ·
    rename_i x m1 hx
    split at h
    ·
     rename_i z m2 hz
     have h:=Option.some.inj h; obtain ⟨rfl,rfl⟩:=Prod.mk.inj h
     have q:=e1Q l (i+1) m1 m2 z hz
     have q0:=e1Q (H:=H) [b] i m m1 (x,()) (by simp only [b7Y,hj,hx])
     have hbj:a0L H' j=a0L H j:=hσ i j (q.2 i j (q0.2 i j hj))
     have hx':b.ext H' (a0L H' j) m=some (x,m1):=by
      rw [hbj]
      cases b with
      | box t s =>
       cases hB:a0L H j with
       | box u v =>
        rw [hB] at hx
        simp only [BSh.ext] at hx ⊢
        split at hx
        ·
         split at hx
         ·
          rename_i w m3 hw
          split at hx
          ·
           rename_i hf
           have hx:=Option.some.inj hx; obtain ⟨rfl,rfl⟩:=Prod.mk.inj hx
           rw [e8U s v m m3 w hw fun b hb=>hl b (q.1 b hb)]
           simp only [hf]
          ·
           cases hx
         ·
          cases hx
        ·
         cases hx
       | _=>rw [hB] at hx; simp [BSh.ext] at hx
      | row t =>
       cases hB:a0L H j with
       | row u r=>rw [hB] at hx; exact hx
       | _=>rw [hB] at hx; simp [BSh.ext] at hx
     have hz':=f8V l (i+1) m1 m2 z hz hl hσ
     simp only [hx',hz']
    ·
     cases h
   ·
    cases h
  ·
   cases h
theorem f9I {H H':List Blk} {τ:Tm} {vs:List PV} {x:τ.D} {m:Mt} (h:τ.ext vs H=some (x,m)) (hl:∀ b∈m.lent,a0L H' b=a0L H b) (hσ:∀ k j,m.σ.get k=some j→a0L H' j=a0L H j):τ.ext vs H'=some (x,m):=by
 unfold Tm.ext Tm.extF at h ⊢
 split at h
 ·
  rename_i y m1 hy
  split at h
  ·
   rename_i z m2 hz
   split at h
   ·
    rename_i hok
    have h:=Option.some.inj h
    obtain ⟨rfl,rfl⟩:=Prod.mk.inj h
    rw [e8V τ.slots vs _ m1 y hy fun b hb=>hl b ((e1Q τ.heap 0 m1 m2 z hz).1 b hb)]
    simp only
    rw [f8V τ.heap 0 m1 m2 z hz hl hσ]
    simp only
    have:m2.okb H' τ.heap.length=m2.okb H τ.heap.length:=by
     unfold Mt.okb
     congr 1
     generalize m2.lent=l at hl
     induction l with
     | nil=>rfl
     | cons b l ih=>simp only [List.all_cons]; rw [hl b (by simp),ih fun c hc=>hl c (by simp [hc])]
    rw [this,hok]
   ·
    cases h
  ·
   cases h
 ·
  cases h
end Sym

/- The law of a call whose arguments point to blocks of the caller's own. -/
namespace Sym
open Go
theorem f6T:∀ (l:List BSh),b0T l≤l.length
 | []=>Nat.le_refl _
 | .box _ _::l=>by simp only [b0T,List.length_cons]; have:=f6T l; omega
 | .row _::l=>Nat.zero_le _
theorem d4I:∀ (l r:List BSh) (x:f0T l) (y:f0T r),c6Z l r=true→∀ i,i<b0T l→i<r.length∧∃ t v v',a0L (a3K l x) i=.box t v∧a0L (a3K r y) i=.box t v'
 | .box t s::l,.box u s'::r,x,y,h,i,hi=>by
  simp only [c6Z,Bool.and_eq_true] at h
  have e:=Ty.beq_eq h.1
  subst e
  cases i with
  | zero=>exact ⟨by simp,t,_,_,rfl,rfl⟩
  | succ i =>
   obtain ⟨h1,t',v,v',h2,h3⟩:=d4I l r x.2 y.2 h.2 i (by simpa [b0T] using hi)
   exact ⟨by simpa using h1,t',v,v',h2,h3⟩
 | .box _ _::_,[],_,_,h,_,_=>by cases h
 | .box _ _::_,.row _::_,_,_,h,_,_=>by cases h
 | [],_,_,_,_,i,hi=>by simp [b0T] at hi
 | .row _::_,_,_,_,_,i,hi=>by simp [b0T] at hi
theorem d2R (σ:Sub) (keep j:Nat):∀ n,j∈c5Y σ keep n↔∃ i,keep≤i∧i<n∧σ.get i=some j
 | 0=>by simp [c5Y]
 | n+1=>by
  have ih:=d2R σ keep j n
  simp only [c5Y]
  split
  ·
   rename_i k hb hk
   have hb:=Nat.le_of_ble_eq_true hb
   simp only [List.mem_cons,ih]
   constructor
   ·
    rintro (rfl | ⟨i,h1,h2,h3⟩)
    ·
     exact ⟨n,hb,by omega,hk⟩
    ·
     exact ⟨i,h1,by omega,h3⟩
   ·
    rintro ⟨i,h1,h2,h3⟩
    by_cases e:i=n
    ·
     subst e; rw [hk] at h3; left; exact (Option.some.inj h3).symm
    ·
     exact .inr ⟨i,h1,by omega,h3⟩
  ·
   rename_i hno
   rw [ih]
   constructor
   ·
    rintro ⟨i,h1,h2,h3⟩; exact ⟨i,h1,by omega,h3⟩
   ·
    rintro ⟨i,h1,h2,h3⟩
    by_cases e:i=n
    ·
     subst e; exact absurd h3 (hno j (Nat.ble_eq_true_of_le h1))
    ·
     exact ⟨i,h1,by omega,h3⟩
theorem g8L (σ:Sub) (keep nb:Nat) (hin:∀ i i' j,σ.get i=some j→σ.get i'=some j→i=i') (hk:∀ i,i<keep→∃ j,σ.get i=some j∧j<nb):∀ (B:List Blk) (i0:Nat) (H:List Blk),
  (∀ k,i0≤k→k<i0+B.length→a0L (a2I H (f9Y σ keep nb i0 B)) (d8F σ keep nb k)=b2V (d8F σ keep nb) (a0L B (k-i0))) ∧
  (∀ j,(∀ k,i0≤k→k<i0+B.length→j≠d8F σ keep nb k)→a0L (a2I H (f9Y σ keep nb i0 B)) j=a0L H j):=by
 have hinj:∀ k k',d8F σ keep nb k=d8F σ keep nb k'→k=k':=by
  intro k k' h
  unfold d8F at h
  by_cases h1:k<keep
  ·
   obtain ⟨j,hj,hl⟩:=hk k h1
   have e1:Nat.ble (k+1) keep=true:=Nat.ble_eq_true_of_le h1
   rw [e1] at h
   simp only [hj] at h
   by_cases h2:k'<keep
   ·
    obtain ⟨j',hj',_⟩:=hk k' h2
    have e2:Nat.ble (k'+1) keep=true:=Nat.ble_eq_true_of_le h2
    rw [e2] at h
    simp only [hj'] at h
    subst h
    exact hin k k' j hj hj'
   ·
    have e2:Nat.ble (k'+1) keep=false:=by
     cases hb:Nat.ble (k'+1) keep with
     | false=>rfl
     | true=>have:=Nat.le_of_ble_eq_true hb; omega
    rw [e2] at h
    simp only at h
    omega
  ·
   have e1:Nat.ble (k+1) keep=false:=by
    cases hb:Nat.ble (k+1) keep with
    | false=>rfl
    | true=>have:=Nat.le_of_ble_eq_true hb; omega
   rw [e1] at h
   simp only at h
   by_cases h2:k'<keep
   ·
    obtain ⟨j',hj',hl⟩:=hk k' h2
    have e2:Nat.ble (k'+1) keep=true:=Nat.ble_eq_true_of_le h2
    rw [e2] at h
    simp only [hj'] at h
    omega
   ·
    have e2:Nat.ble (k'+1) keep=false:=by
     cases hb:Nat.ble (k'+1) keep with
     | false=>rfl
     | true=>have:=Nat.le_of_ble_eq_true hb; omega
    rw [e2] at h
    simp only at h
    omega
 intro B
 induction B with
 | nil=>intro i0 H; exact ⟨fun k h1 h2=>by simp at h2; omega,fun j _=>rfl⟩
 | cons b B ih =>
  intro i0 H
  obtain ⟨r1,r2⟩:=ih (i0+1) (b7P H (d8F σ keep nb i0) (b2V (d8F σ keep nb) b))
  simp only [f9Y,a2I,List.length_cons]
  refine ⟨fun k h1 h2=>?_,fun j hj=>?_⟩
  ·
   by_cases e:k=i0
   ·
    subst e
    rw [r2 _ fun k' h3 h4 h5=>by have:=hinj _ _ h5; omega,a5R,if_pos rfl,Nat.sub_self]
    rfl
   ·
    rw [r1 k (by omega) (by omega),show k-i0=(k-(i0+1))+1 by omega]
    rfl
  ·
   rw [r2 j fun k h3 h4=>hj k (by omega) (by omega),a5R,if_neg (hj i0 (Nat.le_refl _) (by omega))]
theorem d7N (all:Bool) (args:List Nat):∀ (l:List Nat) (b:Nat),b∈e4F all args l→b∈l
 | [],_,h=>by simp [e4F] at h
 | c::l,b,h=>by
  simp only [e4F] at h
  split at h
  ·
   simp only [List.mem_cons] at h ⊢
   exact h.imp id (d7N all args l b)
  ·
   exact List.mem_cons_of_mem _ (d7N all args l b h)
theorem d7A {all:Bool} {args:List Nat}:∀ (l:List Nat) (b:Nat),b∈l→(all=true∨b ∉ args)→b∈e4F all args l
 | [],_,h,_=>by simp at h
 | c::l,b,h,hc=>by
  have memN_iff':∀ (b:Nat) (l:List Nat),f8X b l=true→b∈l:=by
   intro b l
   induction l with
   | nil=>intro h; cases h
   | cons c l ih =>
    intro h
    simp only [f8X,Bool.or_eq_true] at h
    rcases h with h | h
    ·
     rw [Nat.eq_of_beq_eq_true h]; simp
    ·
     simp [ih h]
  simp only [List.mem_cons] at h
  simp only [e4F]
  rcases h with rfl | h
  ·
   have:(all||!f8X b args)=true:=by
    rcases hc with rfl | hc
    ·
     rfl
    ·
     cases hm:f8X b args with
     | false=>simp
     | true=>exact absurd (memN_iff' b args hm) hc
   rw [this]; simp
  ·
   have:=d7A l b h hc
   split
   ·
    simp [this]
   ·
    exact this
section
variable {P:Program} {base:World} {G0 own0:Nat→Prop} {o:Oper} {a:Act} {c:Cx}
theorem f4P (hM:Mem base G0 own0 c) {f0:FuncId} {us:List Value} (hex:(execOp a.eval o).run P c.w=(callFunc f0 us.toArray).run P c.w) {C:Con} (hC:a0Z P f0 C) (hko:c6Z C.In.heap C.Out.heap=true) {vs:List PV} (ha:All2 (VOk c) vs us) (hlen:vs.length=C.In.slots.length)
  {x:C.In.D} {m:Mt} (hx:C.In.ext vs c.H=some (x,m)) {y:C.Out.D} (hy:C.F x=some y) {nb:Nat} (hnb:∀ i j,m.σ.get i=some j→j<nb) (hn:∀ i,b0T C.In.heap≤i→i<C.Out.heap.length→a0L c.H (nb+(i-b0T C.In.heap))=.unborn)
  {L:List Nat} (hL:∀ b∈L,b∈m.lent) (hLa:C.Out.hasSl=true→∀ b∈m.lent,b∈L) :
  a4W P base G0 own0 o a c (c6E (d8F m.σ (b0T C.In.heap) nb) (tuple (a1W C.Out.slots y.1))) (kill L++(kill (c5Y m.σ (b0T C.In.heap) C.In.heap.length)++f9Y m.σ (b0T C.In.heap) nb 0 (a3K C.Out.heap y.2))):=by
 obtain ⟨keep,hkeep⟩:∃ keep,keep=b0T C.In.heap:=⟨_,rfl⟩
 rw [← hkeep] at hn ⊢
 have hkl:keep≤C.In.heap.length:=by rw [hkeep]; exact f6T _
 obtain ⟨t1,t2,t3,t4,t5,t6⟩:=f7O hM.blk hx
 obtain ⟨hblk,hargs⟩:=t6 (b3D c m.lent) (fun r h=>h)
 obtain ⟨us',e1,e2,hargs⟩:=hargs _ ha
 have hll:us.length=C.In.slots.length:=by
  rw [← hlen]
  have:∀ (vs:List PV) (us:List Value),All2 (VOk c) vs us→us.length=vs.length:=by
   intro vs
   induction vs with
   | nil=>intro us h; cases us with | nil=>rfl | cons _ _=>exact h.elim
   | cons v vs ih=>intro us h; cases us with | nil=>exact h.elim | cons u us=>simp [ih us h.2]
  exact this vs _ ha
 have e1:us=us':=by
  rw [List.drop_of_length_le (by omega)] at e1
  simpa using e1
 subst e1
 let cc:=b2T c C.In x m (b3D c m.lent)
 have hccH:cc.H=a3K C.In.heap x.2:=rfl
 have hccρ:∀ i j,m.σ.get i=some j→cc.ρ i=c.ρ j:=fun i j h=>by simp [cc,b2T,h]
 have hlive:∀ i,live (a0L cc.H i)=true→∃ j,m.σ.get i=some j∧live (a0L c.H j)=true:=by
  intro i hi
  have hlt:i<C.In.heap.length:=by
   rcases Nat.lt_or_ge i C.In.heap.length with h | h
   ·
    exact h
   ·
    rw [b6S _ _ (by rw [hccH,b0S]; exact h)] at hi; cases hi
  obtain ⟨j,hj⟩:=t3 i hlt
  refine ⟨j,hj,?_⟩
  have:=t5 i j hj
  have e1F:∀ {B B':Blk},c0A B B'→live B=live B':=by
   intro B B' h
   cases B<;>cases B'<;>first | rfl | exact h.elim | (simp [c0A] at h)
  rw [← e1F this]; exact hi
 have hbl:∀ i j,m.σ.get i=some j→live (a0L c.H j)=true:=by
  intro i j hij
  obtain ⟨b,hb,xb,hbx⟩:=c5E C.In.heap x.2 i (t2 i j hij)
  obtain ⟨j',hj',hl'⟩:=hlive i (by rw [hccH,hbx]; cases b<;>rfl)
  rw [hij] at hj'
  rw [Option.some.inj hj']; exact hl'
 have hGl:∀ r,b3D c m.lent r→r<c.w.heap.size:=by
  rintro r (h | ⟨b,hb,hl,he⟩)
  ·
   rw [hM.G] at h; exact h.2.1
  ·
   exact (hM.blk b).lt hl he
 have hGdis:∀ r,b3D c m.lent r→∀ i j,m.σ.get i=some j→a6C (c.ρ j)≠some r:=by
  intro r hr i j hij he
  rcases hr with hr | ⟨b,hb,hl,he'⟩
  ·
   rw [hM.G] at hr; exact hr.2.2 j (hbl i j hij) he
  ·
   have:b=j:=hM.inj b j r hl (hbl i j hij) he' he
   subst this
   have:=(t1 b hb).1
   rw [c0Y m.σ i b hij] at this
   cases this
 have hS:Start cc:=by
  refine ⟨hblk,fun b b' r hb hb' he he'=>?_,fun r hr=>⟨hGl r hr,fun b hb he=>?_⟩⟩
  ·
   obtain ⟨j,hj,hlj⟩:=hlive b hb
   obtain ⟨j',hj',hlj'⟩:=hlive b' hb'
   rw [hccρ b j hj] at he
   rw [hccρ b' j' hj'] at he'
   have:=hM.inj j j' r hlj hlj' he he'
   subst this
   exact t4 b b' j hj hj'
  ·
   obtain ⟨j,hj,hlj⟩:=hlive b hb
   rw [hccρ b j hj] at he
   exact hGdis r hr b j hj he
 have hcall:=hC x y hy _ _ hS rfl hargs
 have hown:∀ r,d0H cc r→∃ i j,m.σ.get i=some j∧a6C (c.ρ j)=some r:=by
  rintro r ⟨b,hb,he⟩
  obtain ⟨j,hj,hlj⟩:=hlive b hb
  rw [hccρ b j hj] at he
  exact ⟨b,j,hj,he⟩
 have after:∀ v w',(∃ c':Cx,c'.w=w'∧c'.H=a3K C.Out.heap y.2∧VOk c' (tuple (a1W C.Out.slots y.1)) v∧Mem c.w (f9C cc) (d0H cc) c'∧∀ i,i<b0T C.In.heap→c'.ρ i=cc.ρ i) →
   ∃ c2:Cx,c2.w=w'∧Ext c c2∧Mem base G0 own0 c2∧c2.H=a2I c.H (kill L++(kill (c5Y m.σ keep C.In.heap.length)++f9Y m.σ keep nb 0 (a3K C.Out.heap y.2)))∧VOk c2 (c6E (d8F m.σ keep nb) (tuple (a1W C.Out.slots y.1))) v:=by
  rintro v w' ⟨c',rfl,hH',hv',hM',hkρ⟩
  rw [← hkeep] at hkρ
  have hlc:=b0S C.Out.heap y.2
  obtain ⟨c1,hw1,hH1,hρ1,hE1,hM1,hG1,hsame1⟩:=e1H hM L (fun b hb=>(t1 b (hL b hb)).2)
  have hbnd1:∀ i j,m.σ.get i=some j→a0L c1.H j=a0L c.H j:=fun i j hij=>hsame1 j fun hj=>by
   have:=(t1 j (hL j hj)).1
   rw [c0Y m.σ i j hij] at this; cases this
  obtain ⟨f,hf⟩:∃ f,f=d8F m.σ keep nb:=⟨_,rfl⟩
  have fk:∀ i j,i<keep→m.σ.get i=some j→f i=j:=by
   intro i j hi hij
   rw [hf]; unfold d8F
   rw [show Nat.ble (i+1) keep=true from Nat.ble_eq_true_of_le hi]
   simp only [hij]
  have fn':∀ i,keep≤i→f i=nb+(i-keep):=by
   intro i hi
   rw [hf]; unfold d8F
   rw [show Nat.ble (i+1) keep=false by
    cases hb:Nat.ble (i+1) keep with
    | false=>rfl
    | true=>have:=Nat.le_of_ble_eq_true hb; omega]
  let H2:=a2I c1.H (kill (c5Y m.σ keep C.In.heap.length)++f9Y m.σ keep nb 0 (a3K C.Out.heap y.2))
  have hput:∀ (l:List Nat) (H:List Blk) (b:Nat),a0L (a2I H (kill l)) b=if b∈l then .dead else a0L H b:=by
   intro l
   induction l with
   | nil=>intro H b; simp [kill,a2I]
   | cons x l ih =>
    intro H b
    have:a2I H (kill (x::l))=a2I (b7P H x .dead) (kill l):=rfl
    rw [this,ih,a5R]
    by_cases h1:b∈l
    ·
     simp [h1]
    ·
     by_cases h2:b=x<;>simp [h1,h2]
  obtain ⟨o1,o2⟩:=g8L m.σ keep nb t4 (fun i hi=>by
   obtain ⟨j,hj⟩:=t3 i (by omega)
   exact ⟨j,hj,hnb i j hj⟩) (a3K C.Out.heap y.2) 0 (a2I c1.H (kill (c5Y m.σ keep C.In.heap.length)))
  rw [← hf] at o1 o2
  simp only [Nat.zero_add,hlc,Nat.sub_zero] at o1 o2
  have hH2o:∀ i,i<C.Out.heap.length→a0L H2 (f i)=b2V f (a0L (a3K C.Out.heap y.2) i):=fun i hi=>by
   show a0L (a2I c1.H (_++_)) _=_
   rw [a8G]; exact o1 i (Nat.zero_le _) hi
  have hH2u:∀ j,(∀ i,i<C.Out.heap.length→j≠f i)→a0L H2 j=if j∈c5Y m.σ keep C.In.heap.length then .dead else a0L c1.H j:=fun j hj=>by
   show a0L (a2I c1.H (_++_)) _=_
   rw [a8G]
   have:=o2 j (fun i _ hi=>hj i hi)
   rw [this,hput]
  have hkb:∀ i,i<keep→i<C.Out.heap.length∧∃ t v v',a0L (a3K C.In.heap x.2) i=.box t v∧a0L (a3K C.Out.heap y.2) i=.box t v':=fun i hi=>d4I _ _ x.2 y.2 hko i (by rw [← hkeep]; exact hi)
  have fin:∀ i i',f i=f i'→i<C.Out.heap.length→i'<C.Out.heap.length→i=i':=by
   intro i i' h _ _
   by_cases h1:i<keep
   ·
    obtain ⟨j,hj⟩:=t3 i (by omega)
    rw [fk i j h1 hj] at h
    by_cases h2:i'<keep
    ·
     obtain ⟨j',hj'⟩:=t3 i' (by omega)
     rw [fk i' j' h2 hj'] at h
     subst h
     exact t4 i i' j hj hj'
    ·
     rw [fn' i' (by omega)] at h
     have:=hnb i j hj; omega
   ·
    rw [fn' i (by omega)] at h
    by_cases h2:i'<keep
    ·
     obtain ⟨j',hj'⟩:=t3 i' (by omega)
     rw [fk i' j' h2 hj'] at h
     have:=hnb i' j' hj'; omega
    ·
     rw [fn' i' (by omega)] at h
     omega
  let ρ2:Nat→Value:=fun j=>if nb≤j∧j<nb+(C.Out.heap.length-keep) then c'.ρ (keep+(j-nb)) else c.ρ j
  have hkO:keep≤C.Out.heap.length:=by
   rcases Nat.eq_zero_or_pos keep with h | h
   ·
    omega
   ·
    have:=(hkb (keep-1) (by omega)).1; omega
  have hρ2:∀ i,i<C.Out.heap.length→ρ2 (f i)=c'.ρ i:=by
   intro i hi
   by_cases h1:i<keep
   ·
    obtain ⟨j,hj⟩:=t3 i (by omega)
    rw [fk i j h1 hj]
    have:=hnb i j hj
    simp only [ρ2]
    rw [if_neg (by omega),hkρ i h1,hccρ i j hj]
   ·
    rw [fn' i (by omega)]
    simp only [ρ2]
    rw [if_pos ⟨by omega,by omega⟩,show keep+(nb+(i-keep)-nb)=i by omega]
  let D:Nat→Prop:=fun j=>(∃ i,i<C.Out.heap.length∧j=f i)∨j∈c5Y m.σ keep C.In.heap.length
  have hDlive:∀ j,live (a0L H2 j)=true→D j→∃ i,i<C.Out.heap.length∧j=f i∧live (a0L c'.H i)=true∧ρ2 j=c'.ρ i:=by
   intro j hl hD
   by_cases hex:∃ i,i<C.Out.heap.length∧j=f i
   ·
    obtain ⟨i,hi,rfl⟩:=hex
    refine ⟨i,hi,rfl,?_,hρ2 i hi⟩
    rw [hH2o i hi,d1K] at hl
    rw [hH']; exact hl
   ·
    have hno:∀ i,i<C.Out.heap.length→j≠f i:=fun i hi e=>hex ⟨i,hi,e⟩
    rw [hH2u j hno] at hl
    rcases hD with h | h
    ·
     exact absurd h hex
    ·
     rw [if_pos h] at hl; cases hl
  have hbD:∀ i j,m.σ.get i=some j→D j:=by
   intro i j hij
   by_cases h1:i<keep
   ·
    left; exact ⟨i,(hkb i h1).1,(fk i j h1 hij).symm⟩
   ·
    right; exact (d2R _ _ _ _).2 ⟨i,by omega,t2 i j hij,hij⟩
  have hT:Turn base G0 own0 c1 (Cx.next base G0 c'.w ρ2 H2) D:=by
   refine ⟨hM'.os.trans (by rw [hw1]),hM'.tape.trans (by rw [hw1]),hM'.output.trans (by rw [hw1]),by show c1.w.heap.size≤c'.w.heap.size; rw [hw1]; exact hM'.size,fun j hj=>?_,fun j hj=>?_,fun r hr hfr=>?_,fun j hj=>?_,fun j r hj hl he=>?_,fun j j' r hj hj' hl hl' he he'=>?_,rfl⟩
   ·
    show ρ2 j=c1.ρ j
    rw [hρ1]
    simp only [ρ2]
    rw [if_neg]
    rintro ⟨h1,h2⟩
    exact hj (.inl ⟨keep+(j-nb),by omega,by rw [fn' _ (by omega)]; omega⟩)
   ·
    show a0L H2 j=_
    rw [hH2u j fun i hi e=>hj (.inl ⟨i,hi,e⟩),if_neg fun h=>hj (.inr h)]
   ·
    show c'.w.heap[r]?=c1.w.heap[r]?
    rw [hw1] at hr ⊢
    refine hM'.frame r hr fun ho=>?_
    obtain ⟨i,j,hij,he⟩:=hown r ho
    exact hfr j (hbD i j hij) (by rw [hbnd1 i j hij]; exact hbl i j hij) (by rw [hρ1]; exact he)
   ·
    
    unfold c6O
    show match a0L c1.H j,a0L H2 j with
     | .unborn,_=>True
     | _,.dead=>True
     | .box t _,.box t' _=>t'=t∧ρ2 j=c1.ρ j
     | .row t l,.row t' l'=>t'=t∧l'.length=l.length∧ρ2 j=c1.ρ j
     | _,_=>False
    by_cases hex:∃ i,i<C.Out.heap.length∧j=f i
    ·
     obtain ⟨i,hi,rfl⟩:=hex
     by_cases h1:i<keep
     ·
      obtain ⟨j,hj⟩:=t3 i (by omega)
      obtain ⟨_,t,v1,v2,q1,q2⟩:=hkb i h1
      rw [hH2o i hi,q2]
      have hs:=t5 i j hj
      rw [q1] at hs
      have e:=fk i j h1 hj
      rw [e,hbnd1 i j hj]
      cases hcj:a0L c.H j with
      | box u w =>
       rw [hcj] at hs
       simp only [c0A] at hs
       refine ⟨hs,?_⟩
       rw [← e,hρ2 i hi,hkρ i h1,hccρ i j hj,hρ1,e]
      | _=>rw [hcj] at hs; simp [c0A] at hs
     ·
      have hb:=hn i (by omega) hi
      have hnl:f i ∉ L:=fun h=>by
       have:=(t1 _ (hL _ h)).2
       rw [fn' i (by omega),hb] at this; cases this
      rw [hsame1 _ hnl,fn' i (by omega),hb]
      trivial
    ·
     have hno:∀ i,i<C.Out.heap.length→j≠f i:=fun i hi e=>hex ⟨i,hi,e⟩
     rw [hH2u j hno]
     rcases hj with h | h
     ·
      exact absurd h hex
     ·
      rw [if_pos h]; cases a0L c1.H j<;>trivial
   ·
    obtain ⟨i,hi,rfl,hli,hρi⟩:=hDlive j hl hj
    have he:a6C (ρ2 (f i))=some r:=he
    rw [hρi] at he
    rw [hw1]
    rcases hM'.own i r hli he with h | h
    ·
     right
     obtain ⟨i',j',hij,he'⟩:=hown r h
     exact ⟨j',hbD i' j' hij,by rw [hbnd1 i' j' hij]; exact hbl i' j' hij,by rw [hρ1]; exact he'⟩
    ·
     exact .inl h
   ·
    obtain ⟨i,hi,rfl,hli,hρi⟩:=hDlive j hl hj
    obtain ⟨i',hi',rfl,hli',hρi'⟩:=hDlive j' hl' hj'
    have he:a6C (ρ2 (f i))=some r:=he
    have he':a6C (ρ2 (f i'))=some r:=he'
    rw [hρi] at he
    rw [hρi'] at he'
    rw [hM'.inj i i' r hli hli' he he']
  have hE:=hT.ext hM1
  have hren:Ren c' (Cx.next base G0 c'.w ρ2 H2) f:=by
   refine ⟨rfl,fun i hi=>?_⟩
   have hlt:i<C.Out.heap.length:=by
    rcases Nat.lt_or_ge i C.Out.heap.length with h | h
    ·
     exact h
    ·
     exact absurd (b6S c'.H i (by rw [hH',hlc]; exact h)) hi
   simp only [Cx.next]
   rw [hH2o i hlt,hH']
   exact ⟨rfl,hρ2 i hlt⟩
  have hGG:C.Out.hasSl=true→∀ r,c'.G r→(Cx.next base G0 c'.w ρ2 H2).G r:=by
   intro hsl r hr
   rw [hM'.G] at hr
   obtain ⟨h1,h2,h3⟩:=hr
   have notD:∀ j,live (a0L H2 j)=true→a6C (ρ2 j)=some r→¬ D j:=by
    intro j hl he hD
    obtain ⟨i,hi,rfl,hli,hρi⟩:=hDlive j hl hD
    rw [hρi] at he
    exact h3 i hli he
   have old:∀ j,live (a0L H2 j)=true→a6C (ρ2 j)=some r→live (a0L c.H j)=true∧a6C (c.ρ j)=some r:=by
    intro j hl he
    have hnD:=notD j hl he
    have hno:∀ i,i<C.Out.heap.length→j≠f i:=fun i hi e=>hnD (.inl ⟨i,hi,e⟩)
    rw [hH2u j hno,if_neg fun h=>hnD (.inr h)] at hl
    have hjl:j ∉ L:=fun h=>by
     have:a0L c1.H j=.dead:=by rw [hH1,hput,if_pos h]
     rw [this] at hl; cases hl
    rw [hsame1 j hjl] at hl
    refine ⟨hl,?_⟩
    have:ρ2 j=c.ρ j:=by
     simp only [ρ2]
     rw [if_neg]
     rintro ⟨q1,q2⟩
     exact hnD (.inl ⟨keep+(j-nb),by omega,by rw [fn' _ (by omega)]; omega⟩)
    rw [← this]; exact he
   rcases h1 with (h1 | h1) | h1
   ·
    exact (hE.G r (hG1 r (by
     rcases h1 with h1 | ⟨b,hb,hl,he⟩
     ·
      exact .inl h1
     ·
      exact .inr ⟨b,hLa hsl b hb,hl,he⟩))).1
   ·
    obtain ⟨i,j,hij,he⟩:=hown r h1
    refine ⟨?_,h2,fun j' hl' he'=>?_⟩
    ·
     rcases hM.own j r (hbl i j hij) he with h4 | h4
     ·
      exact .inl (hM.sub r h4)
     ·
      exact .inr h4
    ·
     obtain ⟨q1,q2⟩:=old j' hl' he'
     have:=hM.inj j j' r (hbl i j hij) q1 he q2
     subst this
     exact notD j hl' he' (hbD i j hij)
   ·
    refine ⟨.inr (by have:=hM.size; omega),h2,fun j' hl' he'=>?_⟩
    obtain ⟨q1,q2⟩:=old j' hl' he'
    have:=(hM.blk j').lt q1 q2
    omega
  have hMem:=hT.mem hM1 fun j hj=>by
   by_cases hex:∃ i,i<C.Out.heap.length∧j=f i
   ·
    obtain ⟨i,hi,rfl⟩:=hex
    have hb:=hM'.blk i
    obtain ⟨b,hbl2,xb,hbk⟩:=c5E C.Out.heap y.2 i hi
    have hbh:C.Out.hasSl=false→b.hasSl=false:=by
     intro hsl
     simp only [Tm.hasSl,Bool.or_eq_false_iff] at hsl
     have:=hsl.2
     rw [List.any_eq_false] at this
     have:=this b (List.mem_of_getElem? hbl2)
     simpa using this
    unfold BlkOk at hb ⊢
    simp only [Cx.next]
    rw [hH2o i hi,hbk]
    rw [hH',hbk] at hb
    cases b with
    | box t s =>
     simp only [BSh.mk,b2V] at hb ⊢
     obtain ⟨r,cs,ty,k1,k2,k3,k4⟩:=hb
     refine ⟨r,cs,ty,by rw [hρ2 i hi]; exact k1,k2,d0O hren _ cs ?_ k3,by rw [e8S]; exact k4⟩
     cases hsl:C.Out.hasSl with
     | true=>exact .inl (hGG hsl)
     | false=>exact .inr (c9N s xb (by have:=hbh hsl; simpa [BSh.hasSl] using this))
    | row t =>
     simp only [BSh.mk,b2V] at hb ⊢
     obtain ⟨hl,e,xs,ho',hx'⟩:=hb
     refine ⟨hl,e,xs,by rw [hρ2 i hi]; exact ho',b3L (fun z cs hz=>?_) _ xs hx'⟩
     cases hsl:C.Out.hasSl with
     | true=>exact c7Q (hGG hsl) hz
     | false=>exact c8D t (by have:=hbh hsl; simpa [BSh.hasSl] using this) z cs hz
   ·
    have hno:∀ i,i<C.Out.heap.length→j≠f i:=fun i hi e=>hex ⟨i,hi,e⟩
    unfold BlkOk
    simp only [Cx.next]
    rw [hH2u j hno]
    rcases hj with h | h
    ·
     exact absurd h hex
    ·
     rw [if_pos h]; trivial
  refine ⟨Cx.next base G0 c'.w ρ2 H2,rfl,hE1.trans hE,hMem,by show H2=_; rw [a8G,← hH1],?_⟩
  rw [← hf]
  refine h1V hren ?_ hv'
  cases hsl:C.Out.hasSl with
  | true=>exact .inl (hGG hsl)
  | false=>exact .inr (d9R _ _ (by simp only [Tm.hasSl,Bool.or_eq_false_iff] at hsl; exact hsl.1))
 intro K Q hK
 unfold Oper.wp
 rw [hex]
 rcases hcall with ⟨v,w',hr,hR⟩ | ⟨hr,hR⟩
 ·
  have hr:(callFunc f0 us.toArray).run P c.w=.ok (.value v) w':=hr
  rw [hr]
  obtain ⟨c2,rfl,g1,g2,g3,g4⟩:=after v w' hR
  exact hK v c2 g1 g2 g3 g4
 ·
  have hr:(callFunc f0 us.toArray).run P c.w=.ok (.enter f0 us.toArray) c.w:=hr
  rw [hr]
  refine Calls.mono hR ?_
  rintro e w' ⟨v,rfl,hR⟩
  obtain ⟨c2,rfl,g1,g2,g3,g4⟩:=after v w' hR
  exact hK v c2 g1 g2 g3 g4
theorem d9Y {P:Program} {R:Type} {T:R→Prop} {fail:R} (hf:¬ T fail) {f:FuncId} {C:Con} (hC:a0Z P f C) {vs:List PV} {H:List Blk} {nb:Nat} {K:PV→List (Nat×Blk)→R} (h:T (e2F fail C vs H nb K)) :
  ∃ pv δ,T (K pv δ)∧∀ (base:World) (G0 own0:Nat→Prop) (o:Oper) (a:Act) (c:Cx) (us:List Value),Mem base G0 own0 c→Ag H c.H (rdC H (a9I vs))→All2 (VOk c) vs us→(execOp a.eval o).run P c.w=(callFunc f us.toArray).run P c.w →
   (∀ p∈δ,nb≤p.1→a0L c.H p.1=.unborn)→(∀ p∈δ,p.1<nb→a0L c.H p.1=a0L H p.1)→a4W P base G0 own0 o a c pv δ:=by
 unfold e2F at h
 split at h
 ·
  rename_i hin
  split at h
  ·
   rename_i x m hx hl
   unfold optF at h
   split at h
   ·
    rename_i y hy
    refine ⟨_,_,h,fun base G0 own0 o a c us hM hag ha hex hn _=>?_⟩
    rw [← f0L hin vs (H':=c.H) hag] at hx
    refine g2E hM hex hC hin ha (Nat.eq_of_beq_eq_true hl) hx hy fun i hi=>?_
    have hlen:=b0S C.Out.heap y.2
    have hmem:∀ (B:List Blk) (j:Nat) (i:Nat),i<B.length→∃ b,(nb+(j+i),b)∈c5F nb j B:=by
     intro B
     induction B with
     | nil=>intro j i h; simp at h
     | cons b B ih =>
      intro j i h
      cases i with
      | zero=>exact ⟨_,List.mem_cons_self⟩
      | succ i =>
       obtain ⟨b',hb'⟩:=ih (j+1) i (by simpa using h)
       exact ⟨b',List.mem_cons_of_mem _ (by rw [show j+(i+1)=j+1+i by omega]; exact hb')⟩
    obtain ⟨b,hb⟩:=hmem (a3K C.Out.heap y.2) 0 i (by omega)
    have:=hn _ (List.mem_append_right _ hb) (by simp)
    simpa using this
   ·
    exact absurd h hf
  ·
   exact absurd h hf
 ·
  split at h
  ·
   rename_i x m hx
   split at h
   ·
    rename_i hl
    simp only [Bool.and_eq_true] at hl
    obtain ⟨hl,hko,hbl,hll⟩:=hl
    unfold optF at h
    split at h
    ·
     rename_i y hy
     refine ⟨_,_,h,fun base G0 own0 o a c us hM hag ha hex hn hag2=>?_⟩
     have hag1:∀ b,b∈a9I vs→a0L c.H b=a0L H b:=hag.flat
     have hlt:∀ b∈m.lent,b<nb:=by
      intro b hb
      rw [List.all_eq_true] at hll
      exact Nat.le_of_ble_eq_true (hll b hb)
     have hbnd:∀ n i j,f9Q m.σ nb n=true→i<n→m.σ.get i=some j→j<nb:=by
      intro n
      induction n with
      | zero=>intro i j _ h; omega
      | succ n ih =>
       intro i j hb hi hij
       simp only [f9Q,Bool.and_eq_true] at hb
       by_cases e:i=n
       ·
        subst e; rw [hij] at hb; exact Nat.le_of_ble_eq_true hb.1
       ·
        exact ih i j hb.2 (by omega) hij
     have hkey:∀ i j,m.σ.get i=some j→i<C.In.heap.length:=by
      intro i j hij
      unfold Tm.ext Tm.extF at hx
      split at hx
      ·
       split at hx
       ·
        split at hx
        ·
         rename_i hok
         have hx:=Option.some.inj hx
         obtain ⟨_,rfl⟩:=Prod.mk.inj hx
         simp only [Mt.okb,Bool.and_eq_true] at hok
         exact e1Z _ _ hok.2.1 i j hij
        ·
         cases hx
       ·
        cases hx
      ·
       cases hx
     have hout:∀ (B:List Blk) (i0 i:Nat),i<B.length→∃ b,(d8F m.σ (b0T C.In.heap) nb (i0+i),b)∈f9Y m.σ (b0T C.In.heap) nb i0 B:=by
      intro B
      induction B with
      | nil=>intro i0 i h; simp at h
      | cons b B ih =>
       intro i0 i h
       cases i with
       | zero=>exact ⟨_,List.mem_cons_self⟩
       | succ i =>
        obtain ⟨b',hb'⟩:=ih (i0+1) i (by simpa using h)
        exact ⟨b',List.mem_cons_of_mem _ (by rw [show i0+(i+1)=i0+1+i by omega]; exact hb')⟩
     have hlen:=b0S C.Out.heap y.2
     have hx':C.In.ext vs c.H=some (x,m):=by
      refine f9I hx (fun b hb=>?_) fun i j hij=>?_
      ·
       by_cases hv:b∈a9I vs
       ·
        exact hag1 b hv
       ·
        exact hag2 (b,.dead) (List.mem_append_left _ (List.mem_map.2 ⟨b,d7A (all:=C.Out.hasSl) m.lent b hb (.inr hv),rfl⟩)) (hlt b hb)
      ·
       have hj:=hbnd _ i j hbl (hkey i j hij) hij
       by_cases hi:i<b0T C.In.heap
       ·
        obtain ⟨hiO,_⟩:=d4I _ _ x.2 y.2 hko i hi
        obtain ⟨b,hb⟩:=hout (a3K C.Out.heap y.2) 0 i (by omega)
        have hr:d8F m.σ (b0T C.In.heap) nb (0+i)=j:=by
         unfold d8F
         rw [Nat.zero_add,show Nat.ble (i+1) (b0T C.In.heap)=true from Nat.ble_eq_true_of_le hi]
         simp only [hij]
        rw [hr] at hb
        exact hag2 (j,b) (List.mem_append_right _ (List.mem_append_right _ hb)) hj
       ·
        exact hag2 (j,.dead) (List.mem_append_right _ (List.mem_append_left _ (List.mem_map.2 ⟨j,(d2R _ _ _ _).2 ⟨i,by omega,hkey i j hij,hij⟩,rfl⟩))) hj
     refine f4P hM hex hC hko ha (Nat.eq_of_beq_eq_true hl) hx' hy (fun i j hij=>hbnd _ i j hbl (hkey i j hij) hij) (fun i hi1 hi2=>?_) (fun b hb=>d7N _ _ _ b hb) (fun hs b hb=>d7A m.lent b hb (.inl hs))
     obtain ⟨b,hb⟩:=hout (a3K C.Out.heap y.2) 0 i (by omega)
     have hr:d8F m.σ (b0T C.In.heap) nb (0+i)=nb+(i-b0T C.In.heap):=by
      unfold d8F
      rw [Nat.zero_add,show Nat.ble (i+1) (b0T C.In.heap)=false by
       cases hb:Nat.ble (i+1) (b0T C.In.heap) with
       | false=>rfl
       | true=>have:=Nat.le_of_ble_eq_true hb; omega]
     rw [hr] at hb
     exact hn (nb+(i-b0T C.In.heap),b) (List.mem_append_right _ (List.mem_append_right _ hb)) (Nat.le_add_right _ _)
    ·
     exact absurd h hf
   ·
    exact absurd h hf
  ·
   exact absurd h hf
end
end Sym

/- The laws of single operations, fifteenth part: strings. -/
namespace Sym
open Go
section
variable {P:Program} {base:World} {G0 own0:Nat→Prop} {o:Oper} {a:Act} {c:Cx}
theorem g3T {X:Type} (d:X):∀ (l:List X) (i:Nat) (h:i<l.length),rdL d l i=l[i]
 | [],_,h=>absurd h (Nat.not_lt_zero _)
 | _::_,0,_=>rfl
 | _::l,i+1,h=>g3T d l i (Nat.lt_of_succ_lt_succ h)
theorem e1T (hM:Mem base G0 own0 c) {id:TypeId} {x y:Operand} (ho:o.op=.index id x y) (ht:TOk P .str id) {k:IntKind} {i:I k} {z:List (I .u8)} (hi:inB i (a0K z)=true)
  (hx:VOk c (.val .str z) (a.eval x)) (hy:VOk c (.val (.int k) i) (a.eval y)):a4W P base G0 own0 o a c (.val (.int .u8) (rdL (I.of .u8 0) z i.nat)) []:=by
 obtain ⟨h0,h1,h1n,h2⟩:=c3J hi
 obtain ⟨_,hu⟩:=ht
 have h1':i.nat<z.length:=h1n
 refine a1S hM (v:=.int .u8 (rdL (I.of .u8 0) z i.nat).val) ?_ (ok_int _)
 have hs:=c2T z
 have hr:=run_index_string (P:=P) c.w id (bytesOf z) k i.val hu
 rw [dif_pos ⟨h0,by rw [hs]; exact h1⟩] at hr
 have he:(((bytesOf z)[i.val.toNat]'(by rw [hs]; exact h1n)).toNat:Int)=(rdL (I.of .u8 0) z i.nat).val:=by
  rw [g3T _ _ _ h1']
  show (((z.map byteOf).toArray[i.nat]'(by simpa using h1n)).toNat:Int)=_
  rw [List.getElem_toArray,List.getElem_map,c0X]
 rw [he] at hr
 simp only [execOp,ho,(e8B hx).1,b6X hy,Sem.run_bind,hr,Result.andThen_ok,Sem.run_pure]
theorem g2I {a b:ByteArray} (h:a.data.toList=b.data.toList):a=b:=by
 obtain ⟨⟨a⟩⟩:=a
 obtain ⟨⟨b⟩⟩:=b
 have h:a=b:=h
 rw [h]
theorem e1C (hM:Mem base G0 own0 c) {id:TypeId} {x:Operand} {lo hi:Option Operand} (ho:o.op=.slice id x lo hi none) (ht:TOk P .str id) {bs:List PV} (ha:All2 (VOk c) bs (lo.toList.map a.eval++hi.toList.map a.eval))
  {y:List (I .u8)} {n:Nat} {b1 b2:Bool×Nat} (hb:a7O (some (a0K y)) lo.isSome hi.isSome bs=some (n,b1,b2)) (h1:b1.1=true) (h2:b2.1=true) (hx:VOk c (.val .str y) (a.eval x)) :
  a4W P base G0 own0 o a c (.val .str (a3T y b1.2 (b2.2-b1.2))) []:=by
 obtain ⟨hv,hlim⟩:=e8B hx
 have hn:=(a5S (P:=P) lo hi bs ha hb h1 h2 false n (Nat.le_refl _) c.w).2.2.2
 have hn:y.length=n:=Option.some.inj hn
 obtain ⟨hr1,hle,hle',_⟩:=a5S (P:=P) lo hi bs ha hb h1 h2 false n (Nat.le_refl _) c.w
 obtain ⟨_,hu⟩:=ht
 have hs:=c2T y
 have hex:(bytesOf y).extract b1.2 b2.2=bytesOf (a3T y b1.2 (b2.2-b1.2)):=by
  apply g2I
  rw [c9V,ByteArray.data_extract,Array.toList_extract,List.extract_eq_take_drop,c9V,List.map_take,List.map_drop]
 refine a1S hM (v:=.string (bytesOf (a3T y b1.2 (b2.2-b1.2)))) ?_ (f0Q ?_)
 ·
  rw [b5V ho,hv]
  have:(Instr.sliceAt id (.string (bytesOf y)) (lo.map a.eval) (hi.map a.eval) none).run P c.w=.ok (.string (bytesOf (a3T y b1.2 (b2.2-b1.2)))) c.w:=by
   unfold Instr.sliceAt
   rw [Sem.run_bind,run_underlying hu,Result.andThen_ok]
   unfold Instr.slice
   simp only [Sem.run_bind,run_underlying hu,Result.andThen_ok,hs,hn,Option.isSome_none,Bool.false_eq_true,if_false,hr1,Sem.run_pure,hex]
  simp only [Sem.run_bind,this,Result.andThen_ok,Sem.run_pure]
 ·
  show ((y.drop b1.2).take (b2.2-b1.2)).length≤LIM
  rw [List.length_take,List.length_drop]
  omega
theorem e4C (hM:Mem base G0 own0 c) {s d:TypeId} {x:Operand} (ho:o.op=.convert s d x) (hs:TOk P .str s) (hd:TOk P .str d) {y:List (I .u8)} (hx:VOk c (.val .str y) (a.eval x)) :
  a4W P base G0 own0 o a c (.val .str y) []:=by
 obtain ⟨hv,hlim⟩:=e8B hx
 refine a1S hM (v:=.string (bytesOf y)) ?_ (f0Q hlim)
 obtain ⟨_,hs⟩:=hs
 obtain ⟨_,hd⟩:=hd
 simp only [execOp,ho,Sem.run_bind,hv]
 unfold convert
 simp only [Sem.run_bind,run_underlying hs,run_underlying hd,Result.andThen_ok,Sem.run_pure]
theorem d8A (hM:Mem base G0 own0 c) {s d:TypeId} {x:Operand} (ho:o.op=.convert s d x) (hs:TOk P (.sl (.int .u8)) s) (hd:TOk P .str d) {px:PV} {l:List (I .u8)} {lent:List Nat} (hl:a4E c.H (.sl (.int .u8)) px=some (l,lent)) (hx:VOk c px (a.eval x)) :
  a4W P base G0 own0 o a c (.val .str l) []:=by
 obtain ⟨us,h1,h2,he⟩:=c7I hM hx hl
 obtain ⟨ad,cap,rfl,hcap,hlim,hr⟩:=he
 have hlim:l.length≤LIM:=hlim
 have hv:a.eval x=.slice ad l.length cap:=h2
 refine a1S hM (v:=.string (bytesOf l)) ?_ (f0Q hlim)
 obtain ⟨_,e,hsu,_,hee⟩:=hs
 obtain ⟨_,hd⟩:=hd
 have hc:(convert s d (.slice ad l.length cap)).run P c.w=.ok (.string (bytesOf l)) c.w:=by
  rcases hr with hr | ⟨⟨r,q,spot⟩,rfl,hsp,hG,hrow⟩
  ·
   have hr:l=[]:=hr
   subst hr
   rw [run_convert_bytes_string c.w s d e ad _ cap hsu hee hd]
   cases ad with
   | none=>rfl
   | some ad =>
    have:=run_bytesToString (P:=P) c.w ad 0 cap [] (run_loadCells_list (P:=P) c.w ad [] (fun j v hj=>by simp at hj))
    exact this
  ·
   simp only at hsp hrow
   subst hsp
   have:=run_convert_bytes_back (P:=P) c.w s d e ⟨r,q,none⟩ cap (l.map byteOf) hsu hee hd (fun j hj=>by
    have hj':j<l.length:=by simpa using hj
    obtain ⟨ds,e1,e2⟩:=hrow j l[j] (List.getElem?_eq_getElem hj')
    have e1:ds=[.int .u8 (l[j]).val]:=e1
    subst e1
    have:=e2 0 _ rfl
    rw [List.getElem_map,c0X]
    simpa [add_lit,Ty.sz] using this)
   rw [List.length_map] at this
   rw [this]
   rfl
 simp only [execOp,ho,Sem.run_bind,hv,hc,Result.andThen_ok,Sem.run_pure]
end
end Sym

/- Every operation that the evaluator answers is answered by the machine. -/
namespace Sym
open Go
structure EnvOk (E:Env):Prop where
 ty:∀ id t,E.ty id=some t→TI E.P id t
 eqT:∀ id t,E.eqT id=some t→EqI E.P id t
 con:∀ f C,E.how f=some (.con C)→a0Z E.P f C
 fresh:∀ f C,E.how f=some (.fresh C)→c2J E.P f C
 mixed:E.P.follows .mixedOrders=true
 meth:∀ t name f d,E.meth t name=some (f,d)→d3I E.P t name f d
def h5I (E:Env) (o:Oper) (args:List PV) (rd:List Nat) (H:List Blk) (nb:Nat) (pv:PV) (δ:List (Nat×Blk)):Prop :=
 ∀ (base:World) (G0 own0:Nat→Prop) (a:Act) (c:Cx),Mem base G0 own0 c→Ag H c.H rd→All2 (VOk c) args (o.op.operands.toList.map a.eval) →
  (∀ p∈δ,nb≤p.1→a0L c.H p.1=.unborn)→(∀ p∈δ,p.1<nb→a0L c.H p.1=a0L H p.1)→a4W E.P base G0 own0 o a c pv δ
section
variable {E:Env} {R:Type} {T:R→Prop} {fail:R} {o:Oper} {args:List PV} {H:List Blk} {nb:Nat} {K:PV→List (Nat×Blk)→R}
abbrev e7G (E:Env) (T:R→Prop) (o:Oper) (args:List PV) (rd:List Nat) (H:List Blk) (nb:Nat) (K:PV→List (Nat×Blk)→R):Prop:=∃ pv δ,T (K pv δ)∧h5I E o args rd H nb pv δ
abbrev d3Q (E:Env) (T:R→Prop) (o:Oper) (args:List PV) (H:List Blk) (nb:Nat) (K:PV→List (Nat×Blk)→R):Prop:=e7G E T o args (a9I args) H nb K
theorem b7G (hf:¬ T fail) {b:Bool} {r:R} (h:T (obl fail b r)):b=true∧T r:=by
 cases b
 ·
  exact absurd h hf
 ·
  exact ⟨rfl,h⟩
theorem h0Z (hf:¬ T fail) {x:Operand} (ho:o.op=.move x) (h:T (b4S E fail o args H nb K)):e7G E T o args [] H nb K:=by
 simp only [b4S,ho] at h
 split at h
 ·
  refine ⟨_,_,h,fun base G0 own0 a c hM hag ha hn _=>d8Z hM (.inl ho) ?_⟩
  rw [ho] at ha; exact ha.1
 ·
  exact absurd h hf
theorem g0A (hf:¬ T fail) {x:Operand} (ho:o.op=.assign x) (h:T (b4S E fail o args H nb K)):e7G E T o args [] H nb K:=by
 simp only [b4S,ho] at h
 split at h
 ·
  rename_i t h1 h2
  have hx:x=.const (.slice none 0 0):=by
   unfold isNil at h1
   split at h1
   ·
    rfl
   ·
    cases h1
  subst hx
  exact ⟨_,_,h,fun base G0 own0 a c hM hag ha hn _=>d8K hM (hn (nb,.row t []) (by simp) (Nat.le_refl _)) t ho⟩
 ·
  split at h
  ·
   refine ⟨_,_,h,fun base G0 own0 a c hM hag ha hn _=>d8Z hM (.inr ho) ?_⟩
   rw [ho] at ha; exact ha.1
  ·
   exact absurd h hf
theorem g9R (hf:¬ T fail) {x y z:Operand} (ho:o.op=.pick x y z) (h:T (b4S E fail o args H nb K)):d3Q E T o args H nb K:=by
 simp only [b4S,ho] at h
 split at h
 ·
  refine ⟨_,_,h,fun base G0 own0 a c hM hag ha hn _=>?_⟩
  rw [ho] at ha
  exact e2G hM ho ha.1 ha.2.1 ha.2.2.1
 ·
  rename_i p u v _
  cases hp:(show Bool from p) with
  | true =>
   simp only [hp,brn,cond_true] at h
   refine ⟨_,_,h,fun base G0 own0 a c hM hag ha hn _=>?_⟩
   rw [ho] at ha
   exact f1L hM ho ha.1 (fun _=>ha.2.1) (fun h=>by cases h)
  | false =>
   simp only [hp,brn,cond_false] at h
   refine ⟨_,_,h,fun base G0 own0 a c hM hag ha hn _=>?_⟩
   rw [ho] at ha
   exact f1L hM ho ha.1 (fun h=>by cases h) (fun _=>ha.2.2.1)
 ·
  exact absurd h hf
theorem g6T (hE:EnvOk E) (hf:¬ T fail) {id:TypeId} (ho:o.op=.alloc id) (h:T (b4S E fail o args H nb K)):d3Q E T o args H nb K:=by
 simp only [b4S,ho] at h
 split at h
 ·
  rename_i t ht
  split at h
  ·
   rename_i hz
   simp only [Bool.and_eq_true,Bool.not_eq_true'] at hz
   split at h
   ·
    refine ⟨_,_,h,fun base G0 own0 a c hM hag ha hn _=>f6B hM ho (hE.ty _ _ ht) hz.1 ?_ (hn _ (List.mem_singleton.2 rfl) (Nat.le_refl _))⟩
    rintro rfl; exact absurd hz.2 (by simp [Ty.isOpq])
   ·
    refine ⟨_,_,h,fun base G0 own0 a c hM hag ha hn _=>e1S hM ho (hE.ty _ _ ht) hz.1 ?_ (fun p hp=>?_) ?_⟩
    ·
     rintro rfl; exact absurd hz.2 (by simp [Ty.isOpq])
    ·
     exact hn p (List.mem_append_left _ hp) (d0Z _ _ _ p hp).1
    ·
     exact hn _ (List.mem_append_right _ (List.mem_singleton.2 rfl)) (Nat.le_add_right _ _)
  ·
   exact absurd h hf
 ·
  exact absurd h hf
theorem d5K (hE:EnvOk E) (hf:¬ T fail) {id:TypeId} {x:Operand} (ho:o.op=.makeInterface id x) (h:T (b4S E fail o args H nb K)):e7G E T o args [] H nb K:=by
 simp only [b4S,ho] at h
 split at h
 ·
  rename_i t v ht
  split at h
  ·
   rename_i hp
   refine ⟨_,_,h,fun base G0 own0 a c hM hag ha hn _=>?_⟩
   rw [ho] at ha
   exact d2B hM ho (hE.ty _ _ ht).ok hp ha.1
  ·
   exact absurd h hf
 ·
  exact absurd h hf
theorem e3G (hE:EnvOk E) (hf:¬ T fail) {x:Operand} {xt id:TypeId} {ok:Bool} (ho:o.op=.typeAssert x xt id ok) (h:T (b4S E fail o args H nb K)):d3Q E T o args H nb K:=by
 simp only [b4S,ho] at h
 split at h
 ·
  rename_i t u v ht
  split at h
  ·
   rename_i hb
   have hb:=Nat.eq_of_beq_eq_true hb
   subst hb
   cases ok with
   | true =>
    refine ⟨_,_,h,fun base G0 own0 a c hM hag ha hn _=>?_⟩
    rw [ho] at ha
    exact c9E hM ho (hE.ty _ _ ht).ok ha.1
   | false =>
    refine ⟨_,_,h,fun base G0 own0 a c hM hag ha hn _=>?_⟩
    rw [ho] at ha
    exact c9E hM ho (hE.ty _ _ ht).ok ha.1
  ·
   exact absurd h hf
 ·
  exact absurd h hf
theorem f1W (hf:¬ T fail) {fn:Fn} {first caps:Array Operand} (ho:o.op=.makeFunc fn first caps) (h:T (b4S E fail o args H nb K)):d3Q E T o args H nb K:=by
 cases fn with
 | func f =>
  simp only [b4S,ho] at h
  split at h
  ·
   rename_i hc
   simp only [Bool.and_eq_true] at hc
   refine ⟨_,_,h,fun base G0 own0 a c hM hag ha hn _=>?_⟩
   rw [ho] at ha
   exact e4Y hM ho (Nat.eq_of_beq_eq_true hc.1) hc.2 ha
  ·
   split at h
   ·
    exact absurd h hf
   ·
    refine ⟨_,_,h,fun base G0 own0 a c hM hag ha hn _=>?_⟩
    exact d8L hM ho
 | _=>simp only [b4S,ho] at h; exact absurd h hf
theorem h7K (hf:¬ T fail) {id:TypeId} {x:Operand} (ho:o.op=.box id x) (h:T (b4S E fail o args H nb K)):d3Q E T o args H nb K:=by
 simp only [b4S,ho] at h
 split at h
 ·
  rename_i t v ht
  split at h
  ·
   rename_i hz
   refine ⟨_,_,h,fun base G0 own0 a c hM hag ha hn _=>?_⟩
   rw [ho] at ha
   exact g7Q hM ho ha.1 hz (hn _ (List.mem_singleton.2 rfl) (Nat.le_refl _))
  ·
   exact absurd h hf
 ·
  exact absurd h hf
theorem g5Q (hE:EnvOk E) (hf:¬ T fail) {id:TypeId} {ps:Array (Nat×Operand)} (ho:o.op=.build id ps) (h:T (b4S E fail o args H nb K)):d3Q E T o args H nb K:=by
 simp only [b4S,ho] at h
 split at h
 ·
  rename_i t ht
  split at h
  ·
   rename_i hz
   simp only [Bool.and_eq_true] at hz
   split at h
   ·
    rename_i v hv
    split at h
    ·
     refine ⟨_,_,h,fun base G0 own0 a c hM hag ha hn _=>?_⟩
     rw [ho] at ha
     exact e5C hM ho (hE.ty _ _ ht) hz.1 hz.2.1 (by simpa [Op.operands,List.map_map,Function.comp_def] using ha) hv
    ·
     refine ⟨_,_,h,fun base G0 own0 a c hM hag ha hn _=>?_⟩
     rw [ho] at ha
     have hb:=e5C hM ho (hE.ty _ _ ht) hz.1 hz.2.1 (by simpa [Op.operands,List.map_map,Function.comp_def] using ha) hv
     cases hpl:c4Y v with
     | true=>exact f5J t hpl (fun p hp=>hn p hp (d0Z t v nb p hp).1) hb
     | false =>
      have hno:(a3X t v nb)=(v,[]):=by
       cases v with
       | tup a=>cases t<;>rfl
       | undef=>cases t<;>rfl
       | _=>cases hpl
      rw [hno]; exact hb
   ·
    exact absurd h hf
  ·
   split at h
   ·
    rename_i n u _
    split at h
    ·
     rename_i hq
     split at h
     ·
      rename_i x lent hv
      refine ⟨_,_,h,fun base G0 own0 a c hM hag ha hn _=>?_⟩
      rw [ho] at ha
      have hv:=(d8Q (H:=H) (H':=c.H) u _ _ (f8O _ args hag)).trans hv
      exact e4H hM ho (hE.ty _ _ ht) hq (by simpa [Op.operands,List.map_map,Function.comp_def] using ha) hv
     ·
      exact absurd h hf
    ·
     exact absurd h hf
   ·
    exact absurd h hf
 ·
  exact absurd h hf
theorem e5I (hE:EnvOk E) (hf:¬ T fail) {id:TypeId} {n:Nat} {ps:Array (Nat×Operand)} (ho:o.op=.buildSlice id n ps) (h:T (b4S E fail o args H nb K)):d3Q E T o args H nb K:=by
 simp only [b4S,ho] at h
 split at h
 ·
  rename_i t ht
  split at h
  ·
   rename_i hz
   simp only [Bool.and_eq_true] at hz
   split at h
   ·
    rename_i l lent hv
    obtain ⟨hb,h⟩:=b7G hf h
    refine ⟨_,_,h,fun base G0 own0 a c hM hag ha hn _=>?_⟩
    rw [ho] at ha
    rw [← d9I t _ _ (f8O _ args hag)] at hv
    exact d7U hM ho (hE.ty _ _ ht) hz.1 (Nat.le_of_ble_eq_true hz.2) (by simpa [Op.operands,List.map_map,Function.comp_def] using ha) hv hb (hn (nb,.row t l) (by simp) (Nat.le_refl _))
   ·
    exact absurd h hf
  ·
   exact absurd h hf
 ·
  exact absurd h hf
theorem e2V (hf:¬ T fail) {n:Nat} {K:PV→R}:∀ (l:List (Option Nat)) (j:Nat),T (f4Q fail n K j l)→∃ f,j≤n∧rdL none l (n-j)=some f∧T (K (.fn f))
 | [],j,h=>absurd h hf
 | none::r,j,h=>by
  obtain ⟨f,h1,h2,h3⟩:=e2V hf r (j+1) h
  exact ⟨f,by omega,by rw [show n-j=(n-(j+1))+1 by omega]; exact h2,h3⟩
 | some f::r,j,h=>by
  simp only [f4Q] at h
  cases hb:eqN n j with
  | true =>
   rw [hb] at h
   have:=Nat.eq_of_beq_eq_true hb
   subst this
   exact ⟨f,Nat.le_refl _,by rw [Nat.sub_self]; rfl,h⟩
  | false =>
   rw [hb] at h
   obtain ⟨g,h1,h2,h3⟩:=e2V hf r (j+1) h
   exact ⟨g,by omega,by rw [show n-j=(n-(j+1))+1 by omega]; exact h2,h3⟩
theorem h1E (hE:EnvOk E) (hf:¬ T fail) {id:TypeId} {x:Operand} (ho:o.op=.load id x) (h:T (b4S E fail o args H nb K)):d3Q E T o args H nb K:=by
 simp only [b4S,ho] at h
 split at h
 ·
  rename_i t b p ht
  split at h
  ·
   rename_i s v hb
   split at h
   ·
    rename_i hti
    split at h
    ·
     rename_i u hu
     refine ⟨_,_,h,fun base G0 own0 a c hM hag ha hn _=>?_⟩
     rw [ho] at ha
     have hag:a0L c.H b=a0L H b:=hag b (by simp [a9I,b9H])
     exact e5N hM ho (hE.ty _ _ ht).ok ha.1 (hag.trans hb) hti hu
    ·
     exact absurd h hf
   ·
    exact absurd h hf
  ·
   rename_i l hb
   split at h
   ·
    rename_i i
    split at h
    ·
     rename_i hti
     obtain ⟨f,_,hu,h⟩:=e2V (K:=fun v=>K v []) hf l 0 h
     refine ⟨_,_,h,fun base G0 own0 a c hM hag ha hn _=>?_⟩
     rw [ho] at ha
     have hag:a0L c.H b=a0L H b:=hag b (by simp [a9I,b9H])
     exact d3C hM ho (hE.ty _ _ ht).ok ha.1 (hag.trans hb) hti (u:=.val .fnc (some f:Option Nat)) (congrArg (fun z:Option Nat=>some (PV.val Ty.fnc z)) hu)
    ·
     exact absurd h hf
   ·
    exact absurd h hf
  ·
   rename_i s l _ hb
   split at h
   ·
    rename_i i p
    split at h
    ·
     rename_i hti
     split at h
     ·
      rename_i u hu
      refine ⟨_,_,h,fun base G0 own0 a c hM hag ha hn _=>?_⟩
      rw [ho] at ha
      have hag:a0L c.H b=a0L H b:=hag b (by simp [a9I,b9H])
      exact d3C hM ho (hE.ty _ _ ht).ok ha.1 (hag.trans hb) hti hu
     ·
      exact absurd h hf
    ·
     exact absurd h hf
   ·
    exact absurd h hf
  ·
   exact absurd h hf
 ·
  rename_i t u y ht
  split at h
  ·
   rename_i hb
   have:=Ty.beq_eq hb
   subst this
   refine ⟨_,_,h,fun base G0 own0 a c hM hag ha hn _=>?_⟩
   rw [ho] at ha
   exact e0N hM ho (hE.ty _ _ ht).ok ha.1
  ·
   exact absurd h hf
 ·
  exact absurd h hf
theorem g6C (hE:EnvOk E) (hf:¬ T fail) {id:TypeId} {x y:Operand} (ho:o.op=.store id x y) (h:T (b4S E fail o args H nb K)):d3Q E T o args H nb K:=by
 simp only [b4S,ho] at h
 split at h
 ·
  rename_i t b p v ht
  split at h
  ·
   rename_i hfit
   split at h
   ·
    rename_i s u hb
    split at h
    ·
     rename_i hti
     split at h
     ·
      rename_i u' hu
      refine ⟨_,_,h,fun base G0 own0 a c hM hag ha hn _=>?_⟩
      rw [ho] at ha
      have hag:a0L c.H b=a0L H b:=hag b (by simp [a9I,b9H])
      exact e1M hM ho (hE.ty _ _ ht).ok ha.1 ha.2.1 hfit (hag.trans hb) hti hu
     ·
      exact absurd h hf
    ·
     exact absurd h hf
   ·
    rename_i s l hb
    split at h
    ·
     rename_i i p
     split at h
     ·
      rename_i hti
      split at h
      ·
       rename_i yv lent hv
       split at h
       ·
        rename_i z hz hnl
        refine ⟨_,_,h,fun base G0 own0 a c hM hag ha hn _=>?_⟩
        rw [ho] at ha
        have hag1:a0L c.H b=a0L H b:=hag b (by simp [a9I,b9H])
        rw [← b8I (H':=c.H) t v (fun i hi=>hag i (by simp [a9I,hi]))] at hv
        refine e2Y hM ho (hE.ty _ _ ht).ok ha.1 ha.2.1 hfit (hag1.trans hb) hti hv (fun hm=>?_) hz
        rw [List.any_eq_false] at hnl
        exact hnl b hm (Nat.beq_refl b)
       ·
        exact absurd h hf
      ·
       exact absurd h hf
     ·
      exact absurd h hf
    ·
     exact absurd h hf
   ·
    exact absurd h hf
  ·
   exact absurd h hf
 ·
  exact absurd h hf
theorem f3Q (hf:¬ T fail) {x:Operand} (ho:o.op=.nilCheck x) (h:T (b4S E fail o args H nb K)):d3Q E T o args H nb K:=by
 simp only [b4S,ho] at h
 split at h
 ·
  split at h
  ·
   exact absurd h hf
  ·
   rename_i hn
   refine ⟨_,_,h,fun base G0 own0 a c hM hag ha _ _=>?_⟩
   rw [ho] at ha
   exact e5U hM ho hn ha.1
 ·
  exact absurd h hf
theorem f8T (hE:EnvOk E) (hf:¬ T fail) {s d:TypeId} {x:Operand} (ho:o.op=.convert s d x) (h:T (b4S E fail o args H nb K)):d3Q E T o args H nb K:=by
 simp only [b4S,ho] at h
 split at h
 ·
  rename_i k0 l k i hs hd
  refine ⟨_,_,h,fun base G0 own0 a c hM hag ha _ _=>?_⟩
  rw [ho] at ha
  exact e7L hM ho (hE.ty _ _ hs).ok (hE.ty _ _ hd).ok ha.1
 ·
  rename_i y hs hd
  refine ⟨_,_,h,fun base G0 own0 a c hM hag ha _ _=>?_⟩
  rw [ho] at ha
  exact e4C hM ho (hE.ty _ _ hs).ok (hE.ty _ _ hd).ok ha.1
 ·
  rename_i y hs hd
  split at h
  ·
   rename_i l lent hv
   refine ⟨_,_,h,fun base G0 own0 a c hM hag ha _ _=>?_⟩
   rw [ho] at ha
   exact d8A hM ho (hE.ty _ _ hs).ok (hE.ty _ _ hd).ok ((b8I _ _ hag.left).trans hv) ha.1
  ·
   exact absurd h hf
 ·
  exact absurd h hf
theorem f5N (hf:¬ T fail) {x:Operand} {i:Nat} (ho:o.op=.extract x i) (h:T (b4S E fail o args H nb K)):e7G E T o args [] H nb K:=by
 simp only [b4S,ho] at h
 split at h
 ·
  split at h
  ·
   rename_i hu
   refine ⟨_,_,h,fun base G0 own0 a c hM hag ha _ _=>?_⟩
   rw [ho] at ha
   exact e6T hM ho ha.1 hu
  ·
   exact absurd h hf
 ·
  exact absurd h hf
theorem e7O (hE:EnvOk E) (hf:¬ T fail) {id:TypeId} {x y:Operand} (ho:o.op=.makeSlice id x y) (h:T (b4S E fail o args H nb K)):d3Q E T o args H nb K:=by
 simp only [b4S,ho] at h
 split at h
 ·
  rename_i t k n l m ht
  split at h
  ·
   rename_i hq
   obtain ⟨h1,h⟩:=b7G hf h
   obtain ⟨h2,h⟩:=b7G hf h
   refine ⟨_,_,h,fun base G0 own0 a c hM hag ha hn _=>?_⟩
   rw [ho] at ha
   exact e2M hM ho (hE.ty _ _ ht) hq h1 h2 ha.1 ha.2.1 (hn _ (List.mem_singleton.2 rfl) (Nat.le_refl _))
  ·
   exact absurd h hf
 ·
  exact absurd h hf
theorem g8T (hE:EnvOk E) (hf:¬ T fail) {op:BinOp} {id yt:TypeId} {x y:Operand} (ho:o.op=.binOp op id x y yt) (h:T (b4S E fail o args H nb K)):d3Q E T o args H nb K:=by
 simp only [b4S,ho] at h
 split at h
 ·
  rename_i u v
  obtain ⟨pv,h1,h2⟩:=f9O (P:=E.P) (fun r=>T r) hf (K:=fun v=>K v []) h id (fun t ht=>hE.eqT _ _ ht) x y
  refine ⟨pv,[],h1,fun base G0 own0 a c hM hag ha _ _=>?_⟩
  rw [ho] at ha
  obtain ⟨r,h3,h4⟩:=h2 c.w c _ _ ha.1 ha.2.1
  refine a1S hM (v:=r) ?_ h3
  simp only [execOp,ho]
  rw [Sem.run_bind,h4]
  rfl
 ·
  exact absurd h hf
theorem e6H (hE:EnvOk E) (hf:¬ T fail) {id:TypeId} {x:Operand} {f:Nat} (ho:o.op=.fieldAddr id x f) (h:T (b4S E fail o args H nb K)):d3Q E T o args H nb K:=by
 simp only [b4S,ho] at h
 split at h
 ·
  rename_i t b p ht
  split at h
  ·
   rename_i off u hoff
   split at h
   ·
    rename_i hc
    simp only [Bool.and_eq_true] at hc
    refine ⟨_,_,h,fun base G0 own0 a c hM hag ha _ _=>?_⟩
    rw [ho] at ha
    have hag:a0L c.H b=a0L H b:=hag b (by simp [a9I,b9H])
    exact e1P hM ho (hE.ty _ _ ht).ok hoff (Nat.le_of_ble_eq_true hc.2) (by rw [e2C hag]; exact hc.1) ha.1
   ·
    exact absurd h hf
  ·
   exact absurd h hf
 ·
  rename_i t v y ht
  split at h
  ·
   rename_i z off u hz hoff
   split at h
   ·
    rename_i w q hs hg
    obtain ⟨e,rfl⟩:=a8R hz
    refine ⟨_,_,h,fun base G0 own0 a c hM hag ha _ _=>?_⟩
    rw [ho] at ha
    subst e
    exact d6F hM ho (hE.ty _ _ ht).ok hoff (Nat.le_of_ble_eq_true hs) hg ha.1
   ·
    exact absurd h hf
  ·
   exact absurd h hf
 ·
  exact absurd h hf
theorem g6I (hE:EnvOk E) (hf:¬ T fail) {id:TypeId} {x:Operand} {f:Nat} (ho:o.op=.field id x f) (h:T (b4S E fail o args H nb K)):d3Q E T o args H nb K:=by
 simp only [b4S,ho] at h
 split at h
 ·
  rename_i t v ht
  split at h
  ·
   rename_i q u hfit hoff hg
   refine ⟨_,_,h,fun base G0 own0 a c hM hag ha _ _=>?_⟩
   rw [ho] at ha
   exact f6F hM ho (hE.ty _ _ ht).ok (off:=q.1) (u:=q.2) hoff hfit hg ha.1
  ·
   exact absurd h hf
 ·
  exact absurd h hf
theorem e7X (hE:EnvOk E) (hf:¬ T fail) {id:TypeId} {x y:Operand} (ho:o.op=.indexAddr id x y) (h:T (b4S E fail o args H nb K)):d3Q E T o args H nb K:=by
 simp only [b4S,ho] at h
 split at h
 ·
  rename_i n u b p k i ht
  split at h
  ·
   rename_i hp
   obtain ⟨hi,h⟩:=b7G hf h
   refine ⟨_,_,h,fun base G0 own0 a c hM hag ha _ _=>?_⟩
   rw [ho] at ha
   have hag:a0L c.H b=a0L H b:=hag b (by simp [a9I,b9H])
   exact d2H hM ho (hE.ty _ _ ht).ok hi (by rw [e2C hag]; exact hp) ha.1 ha.2.1
  ·
   exact absurd h hf
 ·
  rename_i n u v z k i ht
  split at h
  ·
   rename_i z' hz
   obtain ⟨hi,h⟩:=b7G hf h
   obtain ⟨e,rfl⟩:=a8R hz
   refine ⟨_,_,h,fun base G0 own0 a c hM hag ha _ _=>?_⟩
   rw [ho] at ha
   subst e
   exact d1M hM ho (hE.ty _ _ ht).ok hi ha.1 ha.2.1
  ·
   exact absurd h hf
 ·
  rename_i u b k i ht
  split at h
  ·
   rename_i s l hb
   split at h
   ·
    rename_i hs
    have:=Ty.beq_eq hs
    subst this
    obtain ⟨hi,h⟩:=b7G hf h
    refine ⟨_,_,h,fun base G0 own0 a c hM hag ha _ _=>?_⟩
    rw [ho] at ha
    have hag:a0L c.H b=a0L H b:=hag b (by simp [a9I,b9H])
    exact c9Z hM ho (hE.ty _ _ ht).ok (hag.trans hb) hi ha.1 ha.2.1
   ·
    exact absurd h hf
  ·
   exact absurd h hf
 ·
  rename_i u b lo n k i ht
  split at h
  ·
   rename_i s l hb
   split at h
   ·
    rename_i hs
    have:=Ty.beq_eq hs
    subst this
    obtain ⟨hi,h⟩:=b7G hf h
    refine ⟨_,_,h,fun base G0 own0 a c hM hag ha _ _=>?_⟩
    rw [ho] at ha
    have hag:a0L c.H b=a0L H b:=hag b (by simp [a9I,b9H])
    exact d2D hM ho (hE.ty _ _ ht).ok (hag.trans hb) hi ha.1 ha.2.1
   ·
    exact absurd h hf
  ·
   exact absurd h hf
 ·
  rename_i u v z k i ht
  split at h
  ·
   rename_i z' hz
   obtain ⟨hi,h⟩:=b7G hf h
   obtain ⟨e,rfl⟩:=a8R hz
   refine ⟨_,_,h,fun base G0 own0 a c hM hag ha _ _=>?_⟩
   rw [ho] at ha
   subst e
   exact d2W hM ho (hE.ty _ _ ht).ok hi ha.1 ha.2.1
  ·
   exact absurd h hf
 ·
  exact absurd h hf
theorem g6D (hE:EnvOk E) (hf:¬ T fail) {id:TypeId} {x y:Operand} (ho:o.op=.index id x y) (h:T (b4S E fail o args H nb K)):d3Q E T o args H nb K:=by
 simp only [b4S,ho] at h
 split at h
 ·
  rename_i n u v z k i ht
  split at h
  ·
   rename_i z' hz
   obtain ⟨hi,h⟩:=b7G hf h
   obtain ⟨e,rfl⟩:=a8R hz
   refine ⟨_,_,h,fun base G0 own0 a c hM hag ha _ _=>?_⟩
   rw [ho] at ha
   subst e
   exact e1I hM ho (hE.ty _ _ ht).ok hi ha.1 ha.2.1
  ·
   exact absurd h hf
 ·
  rename_i x k i ht
  obtain ⟨hi,h⟩:=b7G hf h
  refine ⟨_,_,h,fun base G0 own0 a c hM hag ha _ _=>?_⟩
  rw [ho] at ha
  exact e1T hM ho (hE.ty _ _ ht).ok hi ha.1 ha.2.1
 ·
  exact absurd h hf
theorem g9P (hf:¬ T fail) {op:UnOp} {id:TypeId} {x:Operand} (ho:o.op=.unOp op id x) (h:T (b4S E fail o args H nb K)):d3Q E T o args H nb K:=by
 simp only [b4S,ho] at h
 split at h
 ·
  rename_i u
  obtain ⟨pv,h1,h2⟩:=g7Z (P:=E.P) (fun r=>T r) hf (K:=fun v=>K v []) h
  refine ⟨pv,[],h1,fun base G0 own0 a c hM hag ha _ _=>?_⟩
  rw [ho] at ha
  obtain ⟨r,h3,h4⟩:=h2 c.w c _ ha.1
  refine a1S hM (v:=r) ?_ h3
  simp only [execOp,ho]
  rw [Sem.run_bind,h4]
  rfl
 ·
  exact absurd h hf
theorem e3Q {c:Cx} {id:Nat} {t:Ty} {x:PV} (ht:E.ty id=some (.sl t)) (hag:Ag H c.H (b9H x)):d9O E H id x=a9K c.H x:=by
 rw [e8O x hag]; simp only [d9O,ht]
theorem f0X (hf:¬ T fail) {a b:Bool} (ha:a=false→b=true) {r:R} (h:T (g5U a fail b r)):b=true∧T r:=by
 cases a with
 | true=>exact b7G hf h
 | false=>exact ⟨ha rfl,h⟩
theorem g0C {n:Option Nat} {lo hi:Bool} {bs:List PV} {m:Nat} {b1 b2:Bool×Nat} (h:a7O n lo hi bs=some (m,b1,b2)):(lo=false→b1.1=true)∧(hi=false→b2.1=true):=by
 unfold a7O at h
 split at h
 ·
  cases h
 ·
  split at h
  ·
   cases h; exact ⟨fun _=>rfl,fun _=>rfl⟩
  ·
   cases h; exact ⟨fun h=>(by cases h),fun _=>rfl⟩
  ·
   cases h; exact ⟨fun _=>rfl,fun h=>(by cases h)⟩
  ·
   cases h; exact ⟨fun h=>(by cases h),fun h=>(by cases h)⟩
  ·
   cases h
theorem g7S (hE:EnvOk E) (hf:¬ T fail) {id:TypeId} {x:Operand} {lo hi mx:Option Operand} (ho:o.op=.slice id x lo hi mx) (h:T (b4S E fail o args H nb K)):d3Q E T o args H nb K:=by
 simp only [b4S,ho] at h
 split at h
 ·
  rename_i m0 b kd i kd2 j
  split at h
  ·
   rename_i y0 t s xs ht hbl
   split at h
   ·
    rename_i hs
    have:=Ty.beq_eq hs
    subst this
    have ⟨h1,g1⟩:=b7G hf h
    clear h
    have ⟨h2,h⟩:=b7G hf g1
    clear g1
    refine ⟨_,_,h,fun base G0 own0 a c hM hag ha _ _=>?_⟩
    rw [ho] at ha
    simp only [Op.operands,Array.toList_append,Option.toArray,List.map_append] at ha
    have ha:All2 (VOk c) [.whole b,.val (.int kd) i,.val (.int kd2) j] [a.eval x,a.eval y0,a.eval m0]:=by simpa using ha
    have hag:a0L c.H b=a0L H b:=hag b (by simp [a9I,b9H])
    exact e2B hM ho (hE.ty _ _ ht).ok (hag.trans hbl) h1 (of_decide_eq_true (show decide _=true from h2)) ha.1 ha.2.1 ha.2.2.1
   ·
    exact absurd h hf
  ·
   exact absurd h hf
 ·
  rename_i px bs
  split at h
  ·
   rename_i n b1 b2 hb
   have hbb:=g0C hb
   have ⟨h1,g1⟩:=f0X hf hbb.1 h
   clear h
   have ⟨h2,h⟩:=f0X hf hbb.2 g1
   clear g1 hbb
   have hsp:∀ (a:Act) (c:Cx),All2 (VOk c) (px::bs) (o.op.operands.toList.map a.eval)→VOk c px (a.eval x)∧All2 (VOk c) bs (lo.toList.map a.eval++hi.toList.map a.eval):=by
    intro a c ha
    rw [ho] at ha
    simp only [Op.operands,Array.toList_append,Option.toArray,List.map_append] at ha
    cases lo<;>cases hi<;>(simp at ha ⊢; exact ha)
   split at h
   ·
    rename_i t ht
    refine ⟨_,_,h,fun base G0 own0 a c hM hag ha _ _=>?_⟩
    have ⟨hx,hbs⟩:=hsp a c ha
    rw [e3Q ht hag.left] at hb
    exact d7R hM ho (hE.ty _ _ ht).ok hbs hb h1 h2 hx
   ·
    rename_i t u y ht
    split at h
    ·
     rename_i y' hy
     obtain ⟨e,rfl⟩:=a8R hy
     refine ⟨_,_,h,fun base G0 own0 a c hM hag ha _ _=>?_⟩
     have ⟨hx,hbs⟩:=hsp a c ha
     subst e
     rw [e3Q ht hag.left] at hb
     exact e2J hM ho (hE.ty _ _ ht).ok hbs hb h1 h2 hx
    ·
     exact absurd h hf
   ·
    rename_i t b ht
    split at h
    ·
     rename_i s l hbl
     split at h
     ·
      rename_i hs
      have:=Ty.beq_eq hs
      subst this
      split at h
      ·
       rename_i hown
       simp only [Bool.and_eq_true,Bool.not_eq_true'] at hown
       have hlo:lo=none:=by cases lo<;>first | rfl | cases hown.2
       subst hlo
       refine ⟨_,_,h,fun base G0 own0 a c hM hag ha hn _=>?_⟩
       have ⟨hx,hbs⟩:=hsp a c ha
       rw [e3Q ht hag.left] at hb
       have hag:a0L c.H b=a0L H b:=hag b (by simp [a9I,b9H])
       exact e0U hM ho (hE.ty _ _ ht).ok hbs (hag.trans hbl) hb h1 h2 hx (hn (nb,.row s (a3T l 0 b2.2)) (by simp) (Nat.le_refl _))
      ·
       refine ⟨_,_,h,fun base G0 own0 a c hM hag ha _ _=>?_⟩
       have ⟨hx,hbs⟩:=hsp a c ha
       rw [e3Q ht hag.left] at hb
       have hag:a0L c.H b=a0L H b:=hag b (by simp [a9I,b9H])
       exact d7D hM ho (hE.ty _ _ ht).ok hbs (hag.trans hbl) hb h1 h2 hx
     ·
      exact absurd h hf
    ·
     exact absurd h hf
   ·
    rename_i t b s k ht
    split at h
    ·
     rename_i u l hbl
     split at h
     ·
      rename_i hs
      have:=Ty.beq_eq hs
      subst this
      refine ⟨_,_,h,fun base G0 own0 a c hM hag ha _ _=>?_⟩
      have ⟨hx,hbs⟩:=hsp a c ha
      rw [e3Q ht hag.left] at hb
      have hag:a0L c.H b=a0L H b:=hag b (by simp [a9I,b9H])
      exact e2S hM ho (hE.ty _ _ ht).ok hbs (hag.trans hbl) hb h1 h2 hx
     ·
      exact absurd h hf
    ·
     exact absurd h hf
   ·
    rename_i m t b p ht
    split at h
    ·
     rename_i hc
     simp only [Bool.and_eq_true] at hc
     split at h
     ·
      rename_i s v0 hbl
      refine ⟨_,_,h,fun base G0 own0 a c hM hag ha _ _=>?_⟩
      have ⟨hx,hbs⟩:=hsp a c ha
      have hag:a0L c.H b=a0L H b:=hag b (by simp [a9I,b9H])
      have hb:a7O (some m) lo.isSome hi.isSome bs=some (n,b1,b2):=by simpa only [d9O,ht] using hb
      exact e2X hM ho (hE.ty _ _ ht).ok hbs (hag.trans hbl) (by rw [e2C hag]; exact hc.1) (Nat.le_of_ble_eq_true hc.2) hb h1 h2 hx
     ·
      exact absurd h hf
    ·
     exact absurd h hf
   ·
    rename_i m t u y ht
    split at h
    ·
     rename_i y' hy
     split at h
     ·
      rename_i hm
      obtain ⟨e,rfl⟩:=a8R hy
      subst e
      refine ⟨_,_,h,fun base G0 own0 a c hM hag ha _ _=>?_⟩
      have ⟨hx,hbs⟩:=hsp a c ha
      have hb:a7O (some m) lo.isSome hi.isSome bs=some (n,b1,b2):=by simpa only [d9O,ht] using hb
      exact d8M hM ho (hE.ty _ _ ht).ok hbs (Nat.le_of_ble_eq_true hm) hb h1 h2 hx
     ·
      exact absurd h hf
    ·
     exact absurd h hf
   ·
    rename_i y ht
    refine ⟨_,_,h,fun base G0 own0 a c hM hag ha _ _=>?_⟩
    have ⟨hx,hbs⟩:=hsp a c ha
    have hb:a7O (some (a0K y)) lo.isSome hi.isSome bs=some (n,b1,b2):=by simpa only [d9O,ht,a9K] using hb
    exact e1C hM ho (hE.ty _ _ ht).ok hbs hb h1 h2 hx
   ·
    exact absurd h hf
  ·
   exact absurd h hf
 ·
  exact absurd h hf
theorem b5A {k:Call} {b:Builtin} (hk:k.callee=.builtin b) (a:Act):(Op.call k).operands.toList.map a.eval=k.args.toList.map a.eval:=by
 simp [Op.operands,Call.operands,hk]
theorem c2O {c:Cx} {x y:PV} {l:Array Operand} {a:Act} (h:All2 (VOk c) [x,y] (l.toList.map a.eval)):∃ p q,l=#[p,q]∧VOk c x (a.eval p)∧VOk c y (a.eval q):=by
 obtain ⟨l⟩:=l
 match l,h with
 | [p,q],h=>exact ⟨p,q,rfl,h.1,h.2.1⟩
 | [],h=>exact h.elim
 | [_],h=>exact h.2.elim
 | _::_::_::_,h=>exact h.2.2.elim
theorem e8Q {c:Cx} {x:PV} {l:Array Operand} {a:Act} (h:All2 (VOk c) [x] (l.toList.map a.eval)):∃ p,l=#[p]∧VOk c x (a.eval p):=by
 obtain ⟨l⟩:=l
 match l,h with
 | [p],h=>exact ⟨p,rfl,h.1⟩
 | [],h=>exact h.elim
 | _::_::_,h=>exact h.2.elim
theorem h4X (hE:EnvOk E) (hf:¬ T fail) {k:Call} (ho:o.op=.call k) (hk:k.callee=.builtin .len) (h:T (b4S E fail o args H nb K)):d3Q E T o args H nb K:=by
 simp only [b4S,ho,hk] at h
 split at h
 ·
  rename_i px t ht hsz
  split at h
  ·
   rename_i n hn
   refine ⟨_,_,h,fun base G0 own0 a c hM hag ha _ _=>?_⟩
   rw [ho,b5A hk] at ha
   obtain ⟨x,hargs,hx⟩:=e8Q ha
   have hat:k.argTypes[0]?=some (k.argTypes.getD 0 0):=by
    have h0:0<k.argTypes.size:=Nat.le_of_ble_eq_true hsz
    simp [Array.getElem?_eq_getElem h0]
   have hok:=(hE.ty _ _ ht).ok
   have hlag:a9K c.H px=a9K H px:=e8O px (fun b hb=>hag b (by simp [a9I,hb]))
   have hstr:c3G px=true↔∃ l,px=.val .str l:=by
    constructor
    ·
     intro h
     unfold c3G at h
     split at h
     ·
      exact ⟨_,rfl⟩
     ·
      cases h
    ·
     rintro ⟨l,rfl⟩; rfl
   unfold lenOf at hn
   split at hn
   ·
    split at hn
    ·
     rename_i hle
     simp only [Option.some.injEq] at hn
     subst hn
     exact e7E hM ho hk hargs hat hok (Nat.le_of_ble_eq_true hle)
    ·
     cases hn
   ·
    split at hn
    ·
     cases hn
    ·
     rename_i hs
     refine f6H hM ho hk hargs hat hok (.inl ⟨_,rfl⟩) ⟨fun h=>(by cases h),fun h=>?_⟩ (hlag.trans hn) hx
     rw [hstr.2 h] at hs; cases hs
   ·
    split at hn
    ·
     rename_i hs
     exact f6H hM ho hk hargs hat hok (.inr rfl) ⟨fun _=>hstr.1 hs,fun _=>rfl⟩ (hlag.trans hn) hx
    ·
     cases hn
   ·
    cases hn
  ·
   exact absurd h hf
 ·
  exact absurd h hf
theorem h3M (hE:EnvOk E) (hf:¬ T fail) {k:Call} (ho:o.op=.call k) (hk:k.callee=.builtin .cap) (h:T (b4S E fail o args H nb K)):d3Q E T o args H nb K:=by
 simp only [b4S,ho,hk] at h
 split at h
 ·
  rename_i t ht hsz
  refine ⟨_,_,h,fun base G0 own0 a c hM hag ha _ _=>?_⟩
  rw [ho,b5A hk] at ha
  obtain ⟨x,hargs,hx⟩:=e8Q ha
  have hat:k.argTypes[0]?=some (k.argTypes.getD 0 0):=by
   have h0:0<k.argTypes.size:=Nat.le_of_ble_eq_true hsz
   simp [Array.getElem?_eq_getElem h0]
  exact e6P hM ho hk hargs hat (hE.ty _ _ ht).ok hx
 ·
  exact absurd h hf
theorem h7U (hf:¬ T fail) {k:Call} (ho:o.op=.call k) (hk:k.callee=.builtin .min) (h:T (b4S E fail o args H nb K)):d3Q E T o args H nb K:=by
 simp only [b4S,ho,hk] at h
 split at h
 ·
  rename_i kd p l q
  split at h
  ·
   rename_i q' hq
   obtain ⟨e,rfl⟩:=a8R hq
   injection e with e
   subst e
   refine ⟨_,_,h,fun base G0 own0 a c hM hag ha _ _=>?_⟩
   rw [ho,b5A hk] at ha
   obtain ⟨x,y,hargs,hx,hy⟩:=c2O ha
   exact h0V hM ho hk hargs hx hy
  ·
   exact absurd h hf
 ·
  exact absurd h hf
theorem h5V (hf:¬ T fail) {k:Call} (ho:o.op=.call k) (hk:k.callee=.builtin .max) (h:T (b4S E fail o args H nb K)):d3Q E T o args H nb K:=by
 simp only [b4S,ho,hk] at h
 split at h
 ·
  rename_i kd p l q
  split at h
  ·
   rename_i q' hq
   obtain ⟨e,rfl⟩:=a8R hq
   injection e with e
   subst e
   refine ⟨_,_,h,fun base G0 own0 a c hM hag ha _ _=>?_⟩
   rw [ho,b5A hk] at ha
   obtain ⟨x,y,hargs,hx,hy⟩:=c2O ha
   exact g9J hM ho hk hargs hx hy
  ·
   exact absurd h hf
 ·
  exact absurd h hf
theorem h1P (hE:EnvOk E) (hf:¬ T fail) {k:Call} (ho:o.op=.call k) {fo:Operand} (hk:k.callee=.value fo) (h:T (b4S E fail o args H nb K)):e7G E T o args (rdC H (a9I args)) H nb K:=by
 simp only [b4S,ho,hk] at h
 split at h
 ·
  rename_i f vs
  have hsp:∀ (c:Cx) (a:Act),All2 (VOk c) (.fn f::vs) (o.op.operands.toList.map a.eval)→All2 (VOk c) vs (k.args.toList.map a.eval)∧(execOp a.eval o).run E.P c.w=(callFunc f (k.args.toList.map a.eval).toArray).run E.P c.w:=by
   intro c a ha
   have ha':All2 (VOk c) (.fn f::vs) (a.eval fo::k.args.toList.map a.eval):=by
    rw [ho] at ha
    simp only [Op.operands,Call.operands,hk] at ha
    simpa using ha
   have hfv:a.eval fo=.func (.func f) #[] ([]:List Value).toArray:=by
    obtain ⟨cs,h1,h2⟩:=ha'.1
    simp only [a1J] at h1
    subst h1; exact h2
   refine ⟨ha'.2,?_⟩
   have:=e0P (P:=E.P) ho hk hfv c.w
   simpa using this
  split at h
  ·
   rename_i C hC
   obtain ⟨pv,δ,h1,h2⟩:=d9Y hf (hE.con _ _ hC) h
   refine ⟨pv,δ,h1,fun base G0 own0 a c hM hag ha hn hag2=>?_⟩
   obtain ⟨ha',hex⟩:=hsp c a ha
   exact h2 base G0 own0 o a c _ hM (hag.sub fun b hb=>by simp [a9I,b9H,hb]) ha' hex hn hag2
  ·
   rename_i C hC
   unfold e4M at h
   split at h
   ·
    rename_i hin hout hsh
    split at h
    ·
     rename_i x m hx hl
     unfold optF at h
     split at h
     ·
      rename_i y hy
      refine ⟨_,_,h,fun base G0 own0 a c hM hag ha hn _=>?_⟩
      obtain ⟨ha',hex⟩:=hsp c a ha
      rw [← f0L hin vs (H':=c.H) (hag.sub fun b hb=>by simp [a9I,b9H,hb])] at hx
      exact e2I hM hex (hE.fresh _ _ hC) hin hout hsh ha' (Nat.eq_of_beq_eq_true hl) hx hy
     ·
      exact absurd h hf
    ·
     exact absurd h hf
   ·
    exact absurd h hf
  ·
   exact absurd h hf
 ·
  exact absurd h hf
theorem g2H (hE:EnvOk E) (hf:¬ T fail) {k:Call} (ho:o.op=.call k) (hk:k.callee=.builtin .append) (h:T (b4S E fail o args H nb K)):d3Q E T o args H nb K:=by
 simp only [b4S,ho,hk] at h
 split at h
 ·
  rename_i t px py ht
  split at h
  ·
   rename_i hc
   simp only [Bool.and_eq_true] at hc
   obtain ⟨hq,hsz,ha0,ha1⟩:=hc
   have hat:∃ id,k.argTypes=#[id,id]∧E.ty id=some (.sl t):=by
    have h1:=Nat.eq_of_beq_eq_true ha1
    have h0:=Nat.eq_of_beq_eq_true ha0
    obtain ⟨l⟩:∃ l:Array TypeId,l=k.argTypes:=⟨_,rfl⟩
    generalize k.argTypes=l at *
    obtain ⟨l⟩:=l
    match l,h1 with
    | [p,q],_ =>
     simp at h0 ht
     exact ⟨p,by rw [h0],ht⟩
   obtain ⟨id,hat,hid⟩:=hat
   unfold e9G at h
   split at h
   ·
    rename_i ys lent hv
    split at h
    ·
     have ⟨h1,g⟩:=b7G hf h
     refine ⟨_,_,g,fun base G0 own0 a c hM hag ha hn _=>?_⟩
     rw [ho,b5A hk] at ha
     obtain ⟨x,y,hargs,hx,hy⟩:=c2O ha
     rw [← b8I (H':=c.H) _ py (fun b hb=>hag b (by simp [a9I,hb]))] at hv
     exact d6C hM ho hk hargs hat (hE.ty _ _ hid) hq (Nat.le_of_ble_eq_true hsz) hx hy hv h1 (hn (nb,.row t ys) (by simp) (Nat.le_refl _))
    ·
     rename_i b
     split at h
     ·
      rename_i u l hb
      split at h
      ·
       rename_i xs hxs
       obtain ⟨e,rfl⟩:=a8R hxs
       injection e with e
       subst e
       split at h
       ·
        exact absurd h hf
       ·
        rename_i hnl
        have ⟨h1,g⟩:=b7G hf h
        refine ⟨_,_,g,fun base G0 own0 a c hM hag ha hn _=>?_⟩
        rw [ho,b5A hk] at ha
        obtain ⟨x,y,hargs,hx,hy⟩:=c2O ha
        have hag1:a0L c.H b=a0L H b:=hag b (by simp [a9I,b9H])
        rw [← b8I (H':=c.H) _ py (fun b hb=>hag b (by simp [a9I,hb]))] at hv
        exact d8C hM ho hk hargs hat (hE.ty _ _ hid) hq (Nat.le_of_ble_eq_true hsz) (hag1.trans hb) (fun hm=>by rw [List.any_eq_false] at hnl; exact hnl b hm (Nat.beq_refl b)) hx hy hv h1 (hn (nb,.row u ((show List u.D from l)++(show List u.D from ys))) (by simp) (Nat.le_refl _))
      ·
       exact absurd h hf
     ·
      exact absurd h hf
    ·
     rename_i b n
     split at h
     ·
      rename_i u l hb
      split at h
      ·
       rename_i xs hxs
       obtain ⟨e,rfl⟩:=a8R hxs
       injection e with e
       subst e
       split at h
       ·
        exact absurd h hf
       ·
        rename_i hnl
        have ⟨h1,g⟩:=b7G hf h
        cases h0:c6W (a0K (show List u.D from ys)) with
        | true =>
         rw [h0] at g
         have g:T (K (.row b 0 n) []):=g
         refine ⟨_,_,g,fun base G0 own0 a c hM hag ha hn _=>?_⟩
         rw [ho,b5A hk] at ha
         obtain ⟨x,y,hargs,hx,hy⟩:=c2O ha
         have hag1:a0L c.H b=a0L H b:=hag b (by simp [a9I,b9H])
         rw [← b8I (H':=c.H) _ py (fun b hb=>hag b (by simp [a9I,hb]))] at hv
         exact d6M hM ho hk hargs hat (hE.ty _ _ hid) (hag1.trans hb) hx hy hv (Nat.eq_of_beq_eq_true h0)
        | false =>
         rw [h0] at g
         have g:T (K (.whole nb) (kill (d3O u lent)++[(nb,.row u (a2C (a3T (show List u.D from l) 0 n) (show List u.D from ys)))])):=g
         refine ⟨_,_,g,fun base G0 own0 a c hM hag ha hn _=>?_⟩
         rw [ho,b5A hk] at ha
         obtain ⟨x,y,hargs,hx,hy⟩:=c2O ha
         have hag1:a0L c.H b=a0L H b:=hag b (by simp [a9I,b9H])
         rw [← b8I (H':=c.H) _ py (fun b hb=>hag b (by simp [a9I,hb]))] at hv
         have hsub:a3T (show List u.D from l) 0 n=(show List u.D from l).take n:=by simp [a3T]
         rw [hsub] at h1 hn ⊢
         exact d8G hM ho hk hargs hat (hE.ty _ _ hid) hq (Nat.le_of_ble_eq_true hsz) (hag1.trans hb) (fun hm=>by rw [List.any_eq_false] at hnl; exact hnl b hm (Nat.beq_refl b)) hx hy hv (fun e=>by rw [show a0K (show List u.D from ys)=0 from e] at h0; cases h0) h1 (hn (nb,.row u ((show List u.D from l).take n++(show List u.D from ys))) (by simp) (Nat.le_refl _))
      ·
       exact absurd h hf
     ·
      exact absurd h hf
    ·
     exact absurd h hf
   ·
    exact absurd h hf
  ·
   split at h
   ·
    rename_i hc
    simp only [Bool.and_eq_true] at hc
    obtain ⟨hq,hsz,ha1⟩:=hc
    split at h
    ·
     rename_i kk htn
     split at h
     ·
      rename_i kn n
      have hat:∃ id tn,k.argTypes=#[id,tn]∧E.ty id=some (.sl t)∧E.ty tn=some (.int kk):=by
       have h1:=Nat.eq_of_beq_eq_true ha1
       obtain ⟨l⟩:∃ l:Array TypeId,l=k.argTypes:=⟨_,rfl⟩
       generalize k.argTypes=l at *
       obtain ⟨l⟩:=l
       match l,h1 with
       | [p,q],_ =>
        simp at ht htn
        exact ⟨p,q,rfl,ht,htn⟩
      obtain ⟨id,tn,hat,hid,htn'⟩:=hat
      have ⟨h1,g⟩:=b7G hf h
      have ⟨h2,g⟩:=b7G hf g
      refine ⟨_,_,g,fun base G0 own0 a c hM hag ha hn _=>?_⟩
      rw [ho,b5A hk] at ha
      obtain ⟨x,y,hargs,hx,hy⟩:=c2O ha
      rw [g4Y] at hn ⊢
      exact d3V hM ho hk hargs hat (hE.ty _ _ hid) (hE.ty _ _ htn') hq (Nat.le_of_ble_eq_true hsz) h1 h2 hx hy (hn (nb,.row t (b9Q (I.nat n) t.zero)) (by simp) (Nat.le_refl _))
     ·
      exact absurd h hf
    ·
     exact absurd h hf
   ·
    exact absurd h hf
 ·
  exact absurd h hf
theorem h1D (hE:EnvOk E) (hf:¬ T fail) {k:Call} (ho:o.op=.call k) (hk:k.callee=.builtin .copy) (h:T (b4S E fail o args H nb K)):d3Q E T o args H nb K:=by
 simp only [b4S,ho,hk] at h
 split at h
 ·
  rename_i t px py ht
  split at h
  ·
   rename_i hc
   have hat:∃ id id2,k.argTypes=#[id,id2]∧E.ty id=some (.sl t):=by
    have h1:=Nat.eq_of_beq_eq_true hc
    obtain ⟨l⟩:∃ l:Array TypeId,l=k.argTypes:=⟨_,rfl⟩
    generalize k.argTypes=l at *
    obtain ⟨l⟩:=l
    match l,h1 with
    | [p,q],_ =>
     simp at ht
     exact ⟨p,q,rfl,ht⟩
   obtain ⟨id,id2,hat,hid⟩:=hat
   unfold g3V at h
   split at h
   ·
    rename_i kd b m b2 lo n
    split at h
    ·
     rename_i m' k' v s m2 u z hb hb2
     split at h
     ·
      rename_i z' hz
      split at h
      ·
       rename_i hcond
       simp only [Bool.and_eq_true] at hcond
       obtain ⟨g1,g2,g3,g4,g5⟩:=hcond
       have g1:=Nat.eq_of_beq_eq_true g1
       have g2:=Ty.beq_eq g2
       have g3:=Nat.eq_of_beq_eq_true g3
       have g4:=Nat.le_of_ble_eq_true g4
       have g5:=Nat.le_of_ble_eq_true g5
       subst g1 g3
       injection g2 with g2
       subst g2
       obtain ⟨e,rfl⟩:=a8R hz
       injection e with e1 e2
       subst e2
       refine ⟨_,_,h,fun base G0 own0 a c hM hag ha _ _=>?_⟩
       rw [ho,b5A hk] at ha
       obtain ⟨x,y,hargs,hx,hy⟩:=c2O ha
       have hag1:a0L c.H b=a0L H b:=hag b (by simp [a9I,b9H])
       have hag2:a0L c.H b2=a0L H b2:=hag b2 (by simp [a9I,b9H])
       exact g1S hM ho hk hargs hat (hE.ty _ _ hid) hx hy (hag1.trans hb) (hag2.trans hb2) g4 g5
      ·
       exact absurd h hf
     ·
      exact absurd h hf
    ·
     exact absurd h hf
   ·
    exact absurd h hf
  ·
   exact absurd h hf
 ·
  exact absurd h hf
theorem f4B (hE:EnvOk E) (hf:¬ T fail) (h:T (b4S E fail o args H nb K)):e7G E T o args (f3M o args H) H nb K:=by
 have hno:∀ {x:Prop},T fail→x:=fun h=>absurd h hf
 unfold f3M
 cases ho:o.op with
 | move x=>exact h0Z hf ho h
 | assign x=>exact g0A hf ho h
 | pick x y z=>exact g9R hf ho h
 | alloc t=>exact g6T hE hf ho h
 | box t x=>exact h7K hf ho h
 | build t ps=>exact g5Q hE hf ho h
 | makeInterface t x=>exact d5K hE hf ho h
 | typeAssert x t u ok=>exact e3G hE hf ho h
 | makeFunc fn p q=>exact f1W hf ho h
 | buildSlice t n ps=>exact e5I hE hf ho h
 | load t x=>exact h1E hE hf ho h
 | store t x y=>exact g6C hE hf ho h
 | nilCheck x=>exact f3Q hf ho h
 | binOp op t x y u=>exact g8T hE hf ho h
 | unOp op t x=>exact g9P hf ho h
 | convert s d x=>exact f8T hE hf ho h
 | fieldAddr t x f=>exact e6H hE hf ho h
 | field t x f=>exact g6I hE hf ho h
 | indexAddr t x y=>exact e7X hE hf ho h
 | index t x y=>exact g6D hE hf ho h
 | slice t x lo hi mx=>exact g7S hE hf ho h
 | extract x i=>exact f5N hf ho h
 | makeSlice t x y=>exact e7O hE hf ho h
 | call k =>
  simp only
  cases hk:k.callee with
  | value fo=>exact h1P hE hf ho hk h
  | invoke r m=>simp only [b4S,ho,hk] at h; exact hno h
  | builtin b =>
   cases b with
   | len=>exact h4X hE hf ho hk h
   | append=>exact g2H hE hf ho hk h
   | cap=>exact h3M hE hf ho hk h
   | copy=>exact h1D hE hf ho hk h
   | min=>exact h7U hf ho hk h
   | max=>exact h5V hf ho hk h
   | _=>simp only [b4S,ho,hk] at h; exact hno h
 | _=>simp only [b4S,ho] at h; exact hno h
end
end Sym
