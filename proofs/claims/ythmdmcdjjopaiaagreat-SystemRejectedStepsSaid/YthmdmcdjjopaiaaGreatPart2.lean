/- The laws of single operations, ninth part: arrays sliced, rows made, lengths, the smaller and the greater. -/
import Derived.Lib.AppendZeros
import Derived.Laws.CopyRow
import Derived.Laws.BytesString
import Derived.Laws.IdiomStrings
import Derived.Test.YthmdmcdjjopaiaaGreatPart1
namespace Sym
open Go
section
variable {P:Program} {base:World} {G0 own0:Nat→Prop} {o:Oper} {a:Act} {c:Cx}
theorem law_slice_nils (hM:Mem base G0 own0 c) {id:TypeId} {x:Operand} {lo hi:Option Operand} (ho:o.op = .slice id x lo hi none) {t:Ty} (ht:TOk P (.sl t) id) {bs:List PV} (ha:All2 (VOk c) bs (lo.toList.map a.eval ++ hi.toList.map a.eval))
  {n:Nat} {b1 b2:Bool × Nat} (hb:slcBounds (lenPV c.H .nils) lo.isSome hi.isSome bs = some (n,b1,b2)) (h1:b1.1 = true) (h2:b2.1 = true) (hx:VOk c .nils (a.eval x)):OpRes P base G0 own0 o a c .nils []:=by
 obtain ⟨cs,hc,hv⟩:=hx
 simp only [a1H] at hc
 subst hc
 obtain ⟨hr1,hle,hle',hn⟩:=run_bounds (P:=P) lo hi bs ha hb h1 h2 true n (Nat.le_refl _) c.w
 simp only [lenPV,Option.some.injEq] at hn
 subst hn
 have e2:b2.2 = 0:=by omega
 have e1:b1.2 = 0:=by omega
 refine a1L hM (v:=.slice none 0 0) ?_ ⟨_,rfl,rfl⟩
 have hv:a.eval x = .slice none 0 0:=hv
 rw [exec_slice ho,hv]
 have:=run_sliceAt_sl ht none 0 0 b1.2 b2.2 _ _ c.w hr1
 simp only [Sem.run_bind,this,Result.andThen_ok,Sem.run_pure,e1,e2]
 rfl
theorem law_slice_arr (hM:Mem base G0 own0 c) {id:TypeId} {x:Operand} {lo hi:Option Operand} (ho:o.op = .slice id x lo hi none) {m:Nat} {t:Ty} (ht:TOk P (.arr m t) id) {bs:List PV} (ha:All2 (VOk c) bs (lo.toList.map a.eval ++ hi.toList.map a.eval))
  {b:Nat} {p:List Step} {s:Ty} {v0:PV} (hbl:a0K c.H b = .box s v0) (hp:ptrIs c.H b p (.arr m t) = true) (hm:m ≤ 1048576) {n:Nat} {b1 b2:Bool × Nat} (hb:slcBounds (some m) lo.isSome hi.isSome bs = some (n,b1,b2)) (h1:b1.1 = true) (h2:b2.1 = true)
  (hx:VOk c (.ptr b p) (a.eval x)):OpRes P base G0 own0 o a c (.aview b p b1.2 (b2.2 - b1.2)) []:=by
 have hptr:=v_ptr hx
 unfold PtrOk at hptr
 unfold ptrIs at hp
 simp only [hbl] at hptr hp
 obtain ⟨r,off,u,e1,e2,hv⟩:=hptr
 have:=tyIs_off hp e2
 subst this
 obtain ⟨_,_,_,hn⟩:=run_bounds (P:=P) lo hi bs ha hb h1 h2 false n (Nat.le_refl _) c.w
 simp only [Option.some.injEq] at hn
 subst hn
 obtain ⟨hr1,hle,hle',_⟩:=run_bounds (P:=P) lo hi bs ha hb h1 h2 false m (Nat.le_refl _) c.w
 obtain ⟨_,e,hu,he⟩:=ht
 refine a1L hM (v:=.slice (some (if m = b1.2 then ⟨r,off,none⟩ else (⟨r,off,none⟩:Addr).add (b1.2 * t.sz))) (b2.2 - b1.2) (m - b1.2)) ?_ ⟨[_],⟨_,rfl,rfl,?_⟩,rfl⟩
 ·
  rw [exec_slice ho,hv]
  unfold Instr.sliceAt
  simp only [Sem.run_bind,run_underlying hu,Result.andThen_ok,Instr.sureAddr,Sem.run_pure,hr1,he.run_size]
 ·
  unfold AviewOk
  simp only [hbl]
  refine ⟨r,off,m,t,e1,e2,by omega,by simp only [LIM]; omega,?_⟩
  by_cases h0:b2.2 - b1.2 = 0
  ·
   left; exact ⟨h0,_,_,by rw [h0]⟩
  ·
   right
   exact ⟨m - b1.2,by rw [if_neg (by omega),add_lit],by omega,by omega⟩
theorem law_slice_barr (hM:Mem base G0 own0 c) {id:TypeId} {x:Operand} {lo hi:Option Operand} (ho:o.op = .slice id x lo hi none) {m:Nat} {t:Ty} (ht:TOk P (.arr m t) id) {bs:List PV} (ha:All2 (VOk c) bs (lo.toList.map a.eval ++ hi.toList.map a.eval))
  {y:Arr t.D m} (hm:m ≤ 1048576) {n:Nat} {b1 b2:Bool × Nat} (hb:slcBounds (some m) lo.isSome hi.isSome bs = some (n,b1,b2)) (h1:b1.1 = true) (h2:b2.1 = true)
  (hx:VOk c (.bptr (.arr m t) y) (a.eval x)):OpRes P base G0 own0 o a c (.val (.sl t) (subL (Arr.list m y) b1.2 (b2.2 - b1.2))) []:=by
 obtain ⟨cs,⟨ad,ds,hcs,hsp,hG,hE,hcell⟩,hv⟩:=hx
 subst hcs
 have hv:a.eval x = .pointer (some ad):=hv
 obtain ⟨_,_,_,hn⟩:=run_bounds (P:=P) lo hi bs ha hb h1 h2 false n (Nat.le_refl _) c.w
 simp only [Option.some.injEq] at hn
 subst hn
 obtain ⟨hr1,hle,hle',_⟩:=run_bounds (P:=P) lo hi bs ha hb h1 h2 false m (Nat.le_refl _) c.w
 obtain ⟨_,e,hu,he⟩:=ht
 have hll:(Arr.list m y).length = m:=Arr.list_len m y
 have hsl:((show List t.D from subL (Arr.list m y) b1.2 (b2.2 - b1.2))).length = b2.2 - b1.2:=by
  show (((Arr.list m y).drop b1.2).take (b2.2 - b1.2)).length = _
  rw [List.length_take,List.length_drop,hll]
  omega
 obtain ⟨blk,off,spot⟩:=ad
 simp only at hsp
 subst hsp
 refine a1L hM (v:=.slice (some (if m = b1.2 then ⟨blk,off,none⟩ else (⟨blk,off,none⟩:Addr).add (b1.2 * t.sz))) (b2.2 - b1.2) (m - b1.2)) ?_ ⟨[_],⟨some (if m = b1.2 then ⟨blk,off,none⟩ else (⟨blk,off,none⟩:Addr).add (b1.2 * t.sz)),m - b1.2,?_,?_,?_,?_⟩,rfl⟩
 ·
  rw [exec_slice ho,hv]
  unfold Instr.sliceAt
  simp only [Sem.run_bind,run_underlying hu,Result.andThen_ok,Instr.sureAddr,Sem.run_pure,hr1,he.run_size]
 ·
  rw [hsl]
 ·
  rw [hsl]; omega
 ·
  rw [hsl]; simp only [LIM]; omega
 ·
  by_cases h0:b2.2 - b1.2 = 0
  ·
   left; exact List.eq_nil_of_length_eq_zero (by rw [hsl]; exact h0)
  ·
   right
   refine ⟨⟨blk,off + b1.2 * t.sz,none⟩,by rw [if_neg (by omega),add_lit],rfl,hG,?_⟩
   have hrow:rowAt c.w (Enc c.w c.G t) t.sz blk off (Arr.list m y):=by
    intro i z hz
    obtain ⟨us,g1,g2⟩:=EncL_get (fun x cs=>Enc_len t x cs) (Arr.list m y) ds i z (EncArr_list m y ds hE) hz
    refine ⟨us,g1,fun j d hj=>?_⟩
    have:=hcell (i * t.sz + j) d (g2 j d hj)
    rw [← Nat.add_assoc] at this
    exact this
   exact rowAt_sub hrow
theorem exec_builtin {k:Call} (ho:o.op = .call k) {b:Builtin} (hk:k.callee = .builtin b):∃ cs,execOp a.eval o = builtin b k.argTypes o.type cs (k.args.map a.eval):=by
 refine ⟨k.args.map fun | .const _=>true | _=>false,?_⟩
 simp only [execOp,ho,resolve,hk]
 rfl
theorem law_len (hM:Mem base G0 own0 c) {x:Operand} {k:Call} (ho:o.op = .call k) (hk:k.callee = .builtin .len) (hargs:k.args = #[x]) {id:TypeId} (hat:k.argTypes[0]? = some id) {px:PV} {t:Ty} (ht:TOk P t id) {n:Nat}
  (hsl:(∃ u,t = .sl u) ∨ t = .str) (hstr:t = .str ↔ ∃ l,px = .val .str l) (hl:lenPV c.H px = some n) (hx:VOk c px (a.eval x)):OpRes P base G0 own0 o a c (.val (.int .i64) (I.ofNat .i64 n)) []:=by
 obtain ⟨hlim,hv⟩:=lenPV_ok hM hl hx
 have hof:=ofNat_val hlim
 refine a1L hM (v:=.int .i64 n) ?_ (by rw [← hof]; exact ok_int _)
 obtain ⟨cs0,hres⟩:=exec_builtin (a:=a) ho hk
 rcases hv with ⟨ad,cap,hv,_,hns⟩ | ⟨l,hpx,hv,hll⟩
 ·
  have hnot:t ≠ .str:=fun h=>by obtain ⟨l,e⟩:=hstr.1 h; exact hns _ e
  obtain ⟨u,rfl⟩:=hsl.resolve_right hnot
  obtain ⟨_,e,hu,_⟩:=ht
  rw [hres,hargs]
  simp only [builtin,Builtin.len_,hat,Sem.run_bind]
  simp [run_underlying hu,hv,goInt]
 ·
  have:=hstr.2 ⟨l,hpx⟩
  subst this
  obtain ⟨_,hu⟩:=ht
  rw [hres,hargs]
  have hll:l.length = n:=hll
  have hsz:(bytesOf l).size = n:=by show ((l.map _).toArray).size = n; rw [List.size_toArray]; exact (List.length_map _).trans hll
  simp only [builtin,Builtin.len_,hat,Sem.run_bind]
  simp [run_underlying hu,hv,goInt,hsz]
theorem law_cap_nil (hM:Mem base G0 own0 c) {x:Operand} {k:Call} (ho:o.op = .call k) (hk:k.callee = .builtin .cap) (hargs:k.args = #[x]) {id:TypeId} (hat:k.argTypes[0]? = some id) {t:Ty} (ht:TOk P (.sl t) id)
  (hx:VOk c .nils (a.eval x)):OpRes P base G0 own0 o a c (.val (.int .i64) (I.ofNat .i64 0)) []:=by
 refine a1L hM (v:=.int .i64 0) ?_ (ok_int _)
 obtain ⟨_,e,hu,_⟩:=ht
 obtain ⟨cs0,hres⟩:=exec_builtin (a:=a) ho hk
 obtain ⟨cs,h1,h2⟩:=hx
 simp only [a1H] at h1
 subst h1
 have h2:a.eval x = .slice none 0 0:=h2
 rw [hres,hargs]
 simp only [builtin,Builtin.cap_,hat,Sem.run_bind]
 simp [run_underlying hu,h2,goInt]
theorem law_len_arr (hM:Mem base G0 own0 c) {x:Operand} {k:Call} (ho:o.op = .call k) (hk:k.callee = .builtin .len) (hargs:k.args = #[x]) {id:TypeId} (hat:k.argTypes[0]? = some id) {m:Nat} {t:Ty} (ht:TOk P (.arr m t) id) (hm:m ≤ 1048576) :
  OpRes P base G0 own0 o a c (.val (.int .i64) (I.ofNat .i64 m)) []:=by
 have hof:=ofNat_val (n:=m) (by simp only [LIM]; omega)
 refine a1L hM (v:=.int .i64 m) ?_ (by rw [← hof]; exact ok_int _)
 obtain ⟨_,e,hu,_⟩:=ht
 obtain ⟨cs0,hres⟩:=exec_builtin (a:=a) ho hk
 rw [hres,hargs]
 simp only [builtin,Builtin.len_,hat,Sem.run_bind]
 simp [run_underlying hu,goInt]
theorem law_mn (hM:Mem base G0 own0 c) {x y:Operand} {k:Call} (ho:o.op = .call k) (hk:k.callee = .builtin .min) (hargs:k.args = #[x,y]) {kd:IntKind} {i j:I kd} (hx:VOk c (.val (.int kd) i) (a.eval x)) (hy:VOk c (.val (.int kd) j) (a.eval y)) :
  OpRes P base G0 own0 o a c (.val (.int kd) (I.mn i j)) []:=by
 refine a1L hM (v:=.int kd (I.mn i j).val) ?_ (ok_int _)
 obtain ⟨cs0,hres⟩:=exec_builtin (a:=a) ho hk
 rw [hres,hargs]
 simp only [builtin,Builtin.min_,Sem.run_bind,List.map_toArray,List.map_cons,List.map_nil,v_int hx,v_int hy]
 unfold I.mn
 split <;> simp [Builtin.min2, *]
theorem law_mx (hM:Mem base G0 own0 c) {x y:Operand} {k:Call} (ho:o.op = .call k) (hk:k.callee = .builtin .max) (hargs:k.args = #[x,y]) {kd:IntKind} {i j:I kd} (hx:VOk c (.val (.int kd) i) (a.eval x)) (hy:VOk c (.val (.int kd) j) (a.eval y)) :
  OpRes P base G0 own0 o a c (.val (.int kd) (I.mx i j)) []:=by
 refine a1L hM (v:=.int kd (I.mx i j).val) ?_ (ok_int _)
 obtain ⟨cs0,hres⟩:=exec_builtin (a:=a) ho hk
 rw [hres,hargs]
 simp only [builtin,Builtin.max_,Sem.run_bind,List.map_toArray,List.map_cons,List.map_nil,v_int hx,v_int hy]
 unfold I.mx
 split <;> simp [Builtin.max2, *]
theorem law_convert (hM:Mem base G0 own0 c) {s d:TypeId} {x:Operand} (ho:o.op = .convert s d x) {k0 k l:IntKind} (hs:TOk P (.int k0) s) (hd:TOk P (.int l) d) {i:I k} (hx:VOk c (.val (.int k) i) (a.eval x)) :
  OpRes P base G0 own0 o a c (.val (.int l) (i.conv l)) []:=by
 refine a1L hM (v:=.int l (i.conv l).val) ?_ (ok_int _)
 obtain ⟨_,hs⟩:=hs
 obtain ⟨_,hd⟩:=hd
 simp only [execOp,ho,Sem.run_bind,v_int hx]
 unfold convert
 simp only [Sem.run_bind,run_underlying hs,run_underlying hd,Result.andThen_ok]
 rfl
theorem repL_len {X:Type}:∀ (n:Nat) (x:X),(repL n x).length = n
 | 0,_=>rfl
 | n + 1,x=>by simp [repL,repL_len n x]
theorem flat_get (z:List Value) (hz:0 < z.length):∀ (n i:Nat),i < n * z.length→(repL n z).flatten[i]? = z[i % z.length]?
 | 0,i,h=>by simp at h
 | n + 1,i,h=>by
  simp only [repL,List.flatten_cons]
  by_cases hi:i < z.length
  ·
   rw [List.getElem?_append_left hi,Nat.mod_eq_of_lt hi]
  ·
   rw [List.getElem?_append_right (by omega),flat_get z hz n (i - z.length) (by rw [Nat.succ_mul] at h; omega)]
   exact congrArg (z[·]?) (Nat.mod_eq_sub_mod (by omega)).symm
theorem flat_len (z:List Value):∀ n,((repL n z).flatten).length = n * z.length
 | 0=>by simp [repL]
 | n + 1=>by simp [repL,flat_len z n,Nat.succ_mul]; omega
theorem zero_cells (z:List Value) (n:Nat):(Array.range (n * z.length)).map (z.toArray[· % z.toArray.size]!) = ((repL n z).flatten).toArray:=by
 apply Array.ext'
 apply List.ext_getElem?
 intro i
 by_cases hi:i < n * z.length
 ·
  have hz:0 < z.length:=by
   rcases Nat.eq_zero_or_pos z.length with h | h
   ·
    rw [h] at hi; simp at hi
   ·
    exact h
  rw [flat_get z hz n i hi]
  have hm:i % z.length < z.length:=Nat.mod_lt _ hz
  simp [hi,hm]
 ·
  rw [List.getElem?_eq_none (by simp; omega),List.getElem?_eq_none (by rw [flat_len]; omega)]
theorem EncL_zero {w:World} {G:Nat→Prop} {t:Ty} (ht:t.noOpq = true):∀ n,EncL (Enc w G t) (repL n t.zero) ((repL n (zCells t)).flatten)
 | 0=>rfl
 | n + 1=>⟨_,_,rfl,enc_zero t ht,EncL_zero ht n⟩
theorem law_makeSlice (hM:Mem base G0 own0 c) {id:TypeId} {x y:Operand} (ho:o.op = .makeSlice id x y) {t:Ty} (ht:TI P id (.sl t)) (hq:t.noOpq = true) {k l:IntKind} {n:I k} {m:I l} (h1:inB' n m.nat = true) (h2:inB' m 1073741824 = true)
  (hx:VOk c (.val (.int k) n) (a.eval x)) (hy:VOk c (.val (.int l) m) (a.eval y)) {nb:Nat} (hn:a0K c.H nb = .unborn):OpRes P base G0 own0 o a c (.whole nb) [(nb,.row t (repL n.nat t.zero))]:=by
 obtain ⟨e,hu,he,i,hi,hby,hz⟩:=ht.elem t rfl
 have hz:=hz.resolve_right (by rintro rfl; cases hq)
 obtain ⟨a1,a2,a3,a4⟩:=inB'_iff h1
 obtain ⟨b1,b2,b3,b4⟩:=inB'_iff h2
 have hw:∀ q:Int,0 ≤ q→q ≤ 1073741824→IntKind.i64.wrap q = q:=fun q h h'=>wrap_eq_of_range ⟨by simp [IntKind.min,IntKind.bits,IntKind.signed]; omega,by simp [IntKind.max,IntKind.bits,IntKind.signed]; omega⟩
 have hw1:=hw n.val a1 (by omega)
 have hw2:=hw m.val b1 b2
 have hbytes:(i.bytes:Int) * m.val ≤ 281474976710656:=by
  have:=Int.mul_le_mul (show (i.bytes:Int) ≤ 131072 by omega) (show m.val ≤ 1073741824 by omega) b1 (by omega)
  omega
 have hbytes':(i.bytes:Int) * n.val ≤ 281474976710656:=by
  have:=Int.mul_le_mul (show (i.bytes:Int) ≤ 131072 by omega) (show n.val ≤ 1073741824 by omega) a1 (by omega)
  omega
 have hzc:(mkZ t).cells = (zCells t).toArray:=cells_mkV (zCells_len t) (zCells_one t)
 have hle:n.nat ≤ m.nat:=a3
 obtain ⟨c',g1,g2,g3,g4,g5⟩:=mem_row hM hn (t:=t) (l:=repL n.nat t.zero) (e:=e) none (grown_alloc c.w _ _)
  (by rw [repL_len]; exact alloc_owns c.w ((repL m.nat (zCells t)).flatten) e t.sz n.nat m.nat (by rw [flat_len,zCells_len]) hle (by simp only [maxLen]; omega))
  (by
   have:(repL m.nat (zCells t)).flatten.take (n.nat * t.sz) = (repL n.nat (zCells t)).flatten:=by
    apply List.ext_getElem?
    intro j
    rw [List.getElem?_take]
    split
    ·
     rename_i hj
     have hzl:=zCells_len t
     have hpos:0 < (zCells t).length:=by
      rcases Nat.eq_zero_or_pos (zCells t).length with h | h
      ·
       rw [hzl] at h; rw [h] at hj; simp at hj
      ·
       exact h
     rw [← hzl] at hj
     have:n.nat * (zCells t).length ≤ m.nat * (zCells t).length:=Nat.mul_le_mul_right _ hle
     rw [flat_get _ hpos _ _ (by omega),flat_get _ hpos _ _ hj]
    ·
     rw [List.getElem?_eq_none]; rw [flat_len,zCells_len]; omega
   rw [this]
   exact EncL_zero hq n.nat)
  (by rw [repL_len]; simp only [LIM]; omega) none (fun i h=>by cases h) (fun r h=>by cases h) (fun r h=>by simp only [blkOf,Option.some.injEq] at h; left; omega)
 refine opres_value (c':=c') ?_ g3 g4 (by simpa [oldDead] using g2) g5
 rw [g1]
 have hzr:(zeroValue e).run P c.w = .ok (mkZ t) c.w:=by simp [zeroValue,typeInfo,hi,hz]
 have hmk:(Instr.makeSlice id (.int k n.val) (.int l m.val)).run P c.w = .ok (.slice (some ⟨c.w.heap.size,0,none⟩) n.nat m.nat) (c.w.alloc (.cells ((repL m.nat (zCells t)).flatten).toArray e)):=by
  unfold Instr.makeSlice
  simp only [Sem.run_bind,run_underlying hu,Result.andThen_ok,asInt,asIntOf,Sem.run_pure,typeInfo,run_program,hi,hw1,hw2]
  have c1:(decide (m.val < 0) || decide ((i.bytes:Int) * m.val > 2 ^ 48)) = false:=by
   rw [decide_eq_false (show ¬ m.val < 0 by omega),decide_eq_false (show ¬ ((i.bytes:Int) * m.val > 2 ^ 48) by omega)]; rfl
  have c2:¬ ((decide (m.val < 0) || decide ((i.bytes:Int) * m.val > 2 ^ 48)) || decide (n.val < 0) || decide (n.val > m.val)) = true:=by
   rw [c1,decide_eq_false (show ¬ n.val < 0 by omega),decide_eq_false (show ¬ n.val > m.val by omega)]; decide
  rw [if_neg c2]
  simp only [Result.andThen_ok,run_askRoom,he.run_size,Sem.run_bind]
  have hmm:m.val.toNat = m.nat:=rfl
  by_cases h0:m.nat * t.sz = 0
  ·
   have h1:(repL m.nat (zCells t)).flatten = []:=List.eq_nil_of_length_eq_zero (by rw [flat_len,zCells_len]; exact h0)
   have h2:Array.range 0 = #[]:=rfl
   rw [hmm,if_pos h0,h1,h0,h2]
   simp [newRow,I.nat]
  ·
   rw [hmm,if_neg h0]
   simp only [Sem.run_bind,hzr,Result.andThen_ok,Sem.run_pure,hzc]
   rw [← zCells_len t,zero_cells]
   simp [newRow,I.nat]
 simp only [execOp,ho,Sem.run_bind,v_int hx,v_int hy,hmk,Result.andThen_ok,Sem.run_pure]
end
end Sym

/- The laws of single operations, tenth part: slice literals and append. -/
namespace Sym
open Go
section
variable {P:Program} {base:World} {G0 own0:Nat→Prop} {o:Oper} {a:Act} {c:Cx}
theorem Enc_nosl {w w':World} {G G':Nat→Prop}:∀ (t:Ty),t.hasSl = false→∀ (x:t.D) (cs:List Value),Enc w G t x cs→Enc w' G' t x cs:=by
 intro t
 induction t with
 | cons a b iha ihb =>
  intro h x cs he
  simp only [Ty.hasSl,Bool.or_eq_false_iff] at h
  obtain ⟨c1,c2,e,h1,h2⟩:=he
  exact ⟨c1,c2,e,iha h.1 _ _ h1,ihb h.2 _ _ h2⟩
 | arr n t ih=>intro h x cs he; exact EncArr_mono (fun x cs he=>ih h x cs he) n x cs he
 | sl t _=>intro h; cases h
 | opq=>intro _ x cs he; exact he.elim
 | _=>intro _ x cs he; exact he
theorem lendE (hM:Mem base G0 own0 c) (t:Ty) (lent:List Nat) (hl:∀ b ∈ lent,live (a0K c.H b) = true) :
  ∃ c1,c1.w = c.w∧c1.H = putBlks c.H (kill (lentE t lent))∧c1.ρ = c.ρ∧Ext c c1∧Mem base G0 own0 c1∧(∀ b,b ∉ lent→a0K c1.H b = a0K c.H b) ∧
   ∀ (x:t.D) (cs:List Value),Enc c.w (Glent c lent) t x cs→Enc c1.w c1.G t x cs:=by
 cases ht:t.hasSl with
 | true =>
  obtain ⟨c1,h1,h2,h3,h4,h5,h6,h7⟩:=lend hM lent hl
  exact ⟨c1,h1,by rw [show lentE t lent = lent by unfold lentE; rw [ht]]; exact h2,h3,h4,h5,h6,fun x cs he=>h7 t x cs he⟩
 | false =>
  obtain ⟨c1,h1,h2,h3,h4,h5,h6,_⟩:=lend hM [] (fun b hb=>by cases hb)
  exact ⟨c1,h1,by rw [show lentE t lent = [] by unfold lentE; rw [ht]]; exact h2,h3,h4,h5,fun b _=>h6 b (by simp),fun x cs he=>Enc_nosl t ht x cs he⟩
theorem toVal_v (hM:Mem base G0 own0 c) {t:Ty} {u:PV} {x:t.D} {lent:List Nat} {v:Value} (hv:VOk c u v) (h:toVal c.H t u = some (x,lent)) :
  ∃ us,a1H c u us∧v = mkV t.isAgg us∧Enc c.w (Glent c lent) t x us:=by
 have key:∀ us,a1H c u us→isAggPV u = t.isAgg:=by
  intro us hc
  have he:=toVal_ok hM.blk t u us x lent hc h
  cases u with
  | val s y =>
   have:(match Ty.cast s t y with | some y=>some (y,([]:List Nat)) | none=>none) = some (x,lent):=by cases t <;> exact h
   split at this
   ·
    rename_i y' hy
    obtain ⟨e,_⟩:=cast_eq hy
    subst e; rfl
   ·
    cases this
  | pair p q=>cases t <;> first | rfl | (simp [toVal] at h)
  | _=>cases t <;> first | rfl | (simp [toVal] at h)
 cases u with
 | tup p=>cases t <;> simp [toVal] at h
 | undef=>cases t <;> simp [toVal] at h
 | _ =>
  obtain ⟨us,h1,h2⟩:=hv
  exact ⟨us,h1,by rw [h2,key us h1],toVal_ok hM.blk t _ us x lent h1 h⟩
theorem fillRow_ok (hM:Mem base G0 own0 c) {t:Ty} (L:List Nat):∀ (ps:List (Nat × Operand)) (args:List PV) (l l':List t.D) (xs:List Value) (lent:List Nat),
  All2 (VOk c) args (ps.map fun x=>a.eval x.2)→EncL (Enc c.w (Glent c L) t) l xs→fillRow c.H t l (zipNat (ps.map (·.1)) args) = some (l',lent)→(∀ b ∈ lent,b ∈ L) →
  ∃ xs',Instr.fill (fun i=>some (i * t.sz,t.sz)) xs.toArray (ps.map fun x=>(x.1,a.eval x.2)) = some xs'.toArray∧EncL (Enc c.w (Glent c L) t) l' xs'∧l'.length = l.length:=by
 intro ps
 induction ps with
 | nil =>
  intro args l l' xs lent ha he hv hL
  simp only [List.map_nil,zipNat,fillRow,Option.some.injEq,Prod.mk.injEq] at hv
  obtain ⟨rfl,rfl⟩:=hv
  exact ⟨xs,rfl,he,rfl⟩
 | cons p ps ih =>
  intro args l l' xs lent ha he hv hL
  cases args with
  | nil=>exact ha.elim
  | cons u args =>
   obtain ⟨hu,ha⟩:=ha
   simp only [List.map_cons,zipNat,fillRow] at hv
   split at hv
   ·
    rename_i hb
    have hi:p.1 < l.length:=by have:=Nat.le_of_ble_eq_true hb; omega
    split at hv
    ·
     rename_i x b hx
     split at hv
     ·
      rename_i l2 b2 hr
      have hv:=Option.some.inj hv
      obtain ⟨rfl,rfl⟩:=Prod.mk.inj hv
      obtain ⟨us,hcu,hvu,heu⟩:=toVal_v hM hu hx
      have heu:=Enc_G (Glent_mono (fun y hy=>hL y (by simp [hy]))) heu
      have hlu:=Enc_len _ _ _ heu
      have hset:=EncL_set (fun x cs=>Enc_len t x cs) x us heu l xs p.1 hi he
      obtain ⟨xs',g1,g2,g3⟩:=ih args (setAt l p.1 x) l2 _ b2 ha hset hr (fun y hy=>hL y (by simp [hy]))
      refine ⟨xs',?_,g2,by rw [g3,setAt_len]⟩
      have hxl:=EncL_len (fun x cs=>Enc_len t x cs) l xs he
      have:(p.1 + 1) * t.sz ≤ l.length * t.sz:=Nat.mul_le_mul_right _ hi
      rw [Nat.succ_mul] at this
      have hvu':a.eval p.2 = _:=hvu
      rw [List.map_cons,fill_step rfl (by rw [hvu']; exact cells_mkV hlu (Enc_one _ _ _ heu)) hlu (by omega)]
      exact g1
     ·
      cases hv
    ·
     cases hv
   ·
    cases hv
theorem exec_buildSlice {id:TypeId} {n:Nat} {ps:Array (Nat × Operand)} (ho:o.op = .buildSlice id n ps):execOp a.eval o = (do pure (.value (← Instr.buildSlice id n (ps.map fun x=>(x.1,a.eval x.2))))):=by
 simp only [execOp,ho]
theorem fillRow_live (H:List Blk) (t:Ty):∀ (ps:List (Nat × PV)) (l l':List t.D) (lent:List Nat),fillRow H t l ps = some (l',lent)→∀ b ∈ lent,live (a0K H b) = true
 | [],l,l',lent,h=>by simp only [fillRow,Option.some.injEq,Prod.mk.injEq] at h; obtain ⟨_,rfl⟩:=h; intro b hb; simp at hb
 | (i,u) :: ps,l,l',lent,h=>by
  simp only [fillRow] at h
  split at h
  ·
   split at h
   ·
    rename_i x b hx
    split at h
    ·
     rename_i l2 b2 hr
     have h:=Option.some.inj h
     obtain ⟨_,rfl⟩:=Prod.mk.inj h
     intro y hy
     simp only [List.mem_append] at hy
     exact hy.elim (toVal_live H t u x b hx y) (fillRow_live H t ps _ l2 b2 hr y)
    ·
     cases h
   ·
    cases h
  ·
   cases h
theorem fillArr_ok (hM:Mem base G0 own0 c) {t:Ty} {n:Nat} (L:List Nat):∀ (ps:List (Nat × Operand)) (args:List PV) (l l':Arr t.D n) (xs:List Value) (lent:List Nat),
  All2 (VOk c) args (ps.map fun x=>a.eval x.2)→EncArr (Enc c.w (Glent c L) t) n l xs→fillArr c.H t n l (zipNat (ps.map (·.1)) args) = some (l',lent)→(∀ b ∈ lent,b ∈ L) →
  ∃ xs',Instr.fill (fun i=>some (i * t.sz,t.sz)) xs.toArray (ps.map fun x=>(x.1,a.eval x.2)) = some xs'.toArray∧EncArr (Enc c.w (Glent c L) t) n l' xs':=by
 intro ps
 induction ps with
 | nil =>
  intro args l l' xs lent ha he hv hL
  simp only [List.map_nil,zipNat,fillArr,Option.some.injEq,Prod.mk.injEq] at hv
  obtain ⟨rfl,rfl⟩:=hv
  exact ⟨xs,rfl,he⟩
 | cons p ps ih =>
  intro args l l' xs lent ha he hv hL
  cases args with
  | nil=>exact ha.elim
  | cons u args =>
   obtain ⟨hu,ha⟩:=ha
   simp only [List.map_cons,zipNat,fillArr] at hv
   split at hv
   ·
    rename_i hb
    have hi:p.1 < n:=by have:=Nat.le_of_ble_eq_true hb; omega
    split at hv
    ·
     rename_i x b hx
     split at hv
     ·
      rename_i l2 b2 hr
      have hv:=Option.some.inj hv
      obtain ⟨rfl,rfl⟩:=Prod.mk.inj hv
      obtain ⟨us,hcu,hvu,heu⟩:=toVal_v hM hu hx
      have heu:=Enc_G (Glent_mono (fun y hy=>hL y (by simp [hy]))) heu
      have hlu:=Enc_len _ _ _ heu
      have hset:=EncArr_upd (fun x cs=>Enc_len t x cs) x us heu n l xs p.1 hi he
      obtain ⟨xs',g1,g2⟩:=ih args _ l2 _ b2 ha hset hr (fun y hy=>hL y (by simp [hy]))
      refine ⟨xs',?_,g2⟩
      have hxl:=EncArr_len (fun x cs=>Enc_len t x cs) n l xs he
      have:(p.1 + 1) * t.sz ≤ n * t.sz:=Nat.mul_le_mul_right _ hi
      rw [Nat.succ_mul] at this
      have hvu':a.eval p.2 = _:=hvu
      rw [List.map_cons,fill_step rfl (by rw [hvu']; exact cells_mkV hlu (Enc_one _ _ _ heu)) hlu (by omega)]
      exact g1
     ·
      cases hv
    ·
     cases hv
   ·
    cases hv
theorem fillArr_live (H:List Blk) (t:Ty) (n:Nat):∀ (r:List (Nat × PV)) (l l':Arr t.D n) (lent:List Nat),fillArr H t n l r = some (l',lent)→∀ b ∈ lent,live (a0K H b) = true
 | [],l,l',lent,h,b,hb=>by
  simp only [fillArr,Option.some.injEq,Prod.mk.injEq] at h
  obtain ⟨_,rfl⟩:=h
  cases hb
 | (i,u) :: r,l,l',lent,h,b,hb=>by
  simp only [fillArr] at h
  split at h
  ·
   split at h
   ·
    rename_i x b1 hx
    split at h
    ·
     rename_i l2 b2 hr
     have h:=Option.some.inj h
     obtain ⟨rfl,rfl⟩:=Prod.mk.inj h
     rcases List.mem_append.1 hb with hb | hb
     ·
      exact toVal_live _ _ _ _ _ hx b hb
     ·
      exact fillArr_live H t n r _ _ _ hr b hb
    ·
     cases h
   ·
    cases h
  ·
   cases h
theorem law_buildArr (hM:Mem base G0 own0 c) {id:TypeId} {ps:Array (Nat × Operand)} (ho:o.op = .build id ps) {n:Nat} {t:Ty} (ht:TI P id (.arr n t)) (hq:t.noOpq = true) {args:List PV} (ha:All2 (VOk c) args (ps.toList.map fun x=>a.eval x.2))
  {x:Arr t.D n} {lent:List Nat} (hf:fillArr c.H t n (Ty.zero (.arr n t)) (zipNat (ps.toList.map (·.1)) args) = some (x,lent)) :
  OpRes P base G0 own0 o a c (.val (.arr n t) x) (kill lent):=by
 obtain ⟨i,hi,_,hz0⟩:=ht.info
 have hz0:=hz0.resolve_right (by intro h; cases h)
 have hcz:(mkZ (.arr n t)).cells = (zCells (.arr n t)).toArray:=cells_mkV (zCells_len _) (zCells_one _)
 obtain ⟨_,e,hu,he⟩:=ht.ok
 obtain ⟨d,hue,_⟩:=he.und
 obtain ⟨ie,hie,hse⟩:=info_of_und hue
 have hz:EncArr (Enc c.w (Glent c lent) t) n (Ty.zero (.arr n t)) (zCells (.arr n t)):=enc_zero (.arr n t) hq
 obtain ⟨xs,g1,g2⟩:=fillArr_ok hM lent ps.toList args _ x _ lent ha hz hf (fun b hb=>hb)
 obtain ⟨c1,h1,h2,h3,h4,h5,h6,h7⟩:=lend hM lent (fillArr_live c.H t n _ _ _ _ hf)
 have hx:Enc c1.w c1.G (.arr n t) x xs:=h7 (.arr n t) x xs g2
 refine opres_value (c':=c1) (v:=.agg xs.toArray) ?_ h4 h5 h2 ?_
 ·
  have:=run_build c.w id (ps.map fun x=>(x.1,a.eval x.2)) xs.toArray (P:=P) (by
   simp only [Program.built,hi,hu,hz0,hie,hse,he.size,hcz]
   simpa using g1)
  rw [exec_build ho,h1]
  simp [this]
 ·
  exact ⟨xs,hx,rfl⟩
theorem law_buildSlice (hM:Mem base G0 own0 c) {id:TypeId} {n:Nat} {ps:Array (Nat × Operand)} (ho:o.op = .buildSlice id n ps) {t:Ty} (ht:TI P id (.sl t)) (hq:t.noOpq = true) (hsm:n * t.sz ≤ 16777216) {args:List PV} (ha:All2 (VOk c) args (ps.toList.map fun x=>a.eval x.2))
  {l:List t.D} {lent:List Nat} (hf:fillRow c.H t (repL n t.zero) (zipNat (ps.toList.map (·.1)) args) = some (l,lent)) (hfl:a1Z n = true) {nb:Nat} (hn:a0K c.H nb = .unborn) :
  OpRes P base G0 own0 o a c (.whole nb) (kill lent ++ [(nb,.row t l)]):=by
 obtain ⟨e,hu,he,i,hi,hby,hz⟩:=ht.elem t rfl
 have hz:=hz.resolve_right (by rintro rfl; cases hq)
 have hzc:(mkZ t).cells = (zCells t).toArray:=cells_mkV (zCells_len t) (zCells_one t)
 have hlive:=fillRow_live c.H t _ _ _ _ hf
 obtain ⟨xs,g1,g2,g3⟩:=fillRow_ok hM lent ps.toList args _ l _ lent ha (EncL_zero hq n) hf (fun b hb=>hb)
 rw [repL_len] at g3
 obtain ⟨c1,h1,h2,h3,h4,h5,h6,h7⟩:=lend hM lent hlive
 have hxl:=EncL_len (fun x cs=>Enc_len t x cs) l xs g2
 have hnl:nb ∉ lent:=fun h=>by have:=hlive nb h; rw [hn] at this; cases this
 have hn1:a0K c1.H nb = .unborn:=(h6 nb hnl).trans hn
 have hlim:n ≤ 1073741824:=by simpa [a1Z] using hfl
 obtain ⟨c2,k1,k2,k3,k4,k5⟩:=mem_row h5 hn1 (t:=t) (l:=l) (e:=e) none (grown_alloc c1.w _ _)
  (by rw [g3]; exact alloc_owns c1.w xs e t.sz n n (by rw [hxl,g3]) (Nat.le_refl _) (by simp only [maxLen]; omega))
  (by rw [List.take_of_length_le (by rw [hxl,g3]; exact Nat.le_refl _)]; exact EncL_mono (fun x cs=>h7 t x cs) l xs g2)
  (by rw [g3]; simp only [LIM]; omega) none (fun i h=>by cases h) (fun r h=>by cases h) (fun r h=>by simp only [blkOf,Option.some.injEq] at h; left; omega)
 refine opres_value (c':=c2) ?_ (h4.trans k3) k4 (by rw [k2,h2,← putBlks_app]; rfl) k5
 rw [k1,h1,exec_buildSlice ho]
 have hsz:i.size = t.sz:=by have:=he.size; simp [Program.cellsOf,hi] at this; exact this
 have hzr:(zeroValue e).run P c.w = .ok (mkZ t) c.w:=by simp [zeroValue,typeInfo,hi,hz]
 have hfill:Instr.fill (fun i=>some (i * t.sz,t.sz)) ((repL n (zCells t)).flatten).toArray (ps.map fun x=>(x.1,a.eval x.2)).toList = some xs.toArray:=by simpa using g1
 have hrun:(Instr.buildSlice id n (ps.map fun x=>(x.1,a.eval x.2))).run P c.w = .ok (.slice (some ⟨c.w.heap.size,0,none⟩) n n) (c.w.alloc (.cells xs.toArray e)):=by
  unfold Instr.buildSlice
  simp only [Sem.run_bind,run_underlying hu,Result.andThen_ok,he.run_size]
  rw [if_neg (by simp; omega)]
  by_cases h0:n * t.sz = 0
  ·
   have hfl0:(repL n (zCells t)).flatten = []:=List.eq_nil_of_length_eq_zero (by rw [flat_len,zCells_len]; exact h0)
   have hr0:Array.range 0 = #[]:=rfl
   rw [hfl0] at hfill
   rw [if_pos h0,h0,hr0]
   simp only [Sem.run_pure,Sem.run_bind,Result.andThen_ok,Array.map_empty,hfill]
   simp [newRow]
  ·
   rw [if_neg h0]
   rw [← zero_cells,zCells_len] at hfill
   simp only [Sem.run_bind,hzr,Result.andThen_ok,Sem.run_pure,hzc,hfill]
   simp [newRow]
 simp only [Sem.run_bind,hrun,Result.andThen_ok,Sem.run_pure]
theorem run_append_room' (w:World) (t ty e e':TypeId) (i:TypeInfo) (ht:P.underlying t = some (.slice e)) (hi:P.info? e = some i)
  (g sLen sCap:Nat) (cur:Array Value) (hg:w.heap[g]? = some (.cells cur e' (0,0))) (x:Value) (m:Nat) (hm:Builtin.lenOf x = pure m) (news:List Value) (hnews:(Builtin.firstCells i.size m x).run P w = .ok news.toArray w) (h1:∀ u ∈ news,u.oneCell' = true)
  (hl:news.length = m * i.size) (hroom:sLen + m ≤ sCap) (hfit:sLen * i.size + news.length ≤ cur.size) :
  (Builtin.append_ #[t,t] ty #[.slice (some ⟨g,0,none⟩) sLen sCap,x]).run P w =
   .ok (.slice (some ⟨g,0,none⟩) (sLen + m) sCap) (w.setRow g (cur.toList.take (sLen * i.size) ++ news ++ cur.toList.drop (sLen * i.size + news.length)).toArray):=by
 have hst:=run_storeCells_at P g (sLen * i.size) e' news 0 cur w hg (by simpa using hfit) h1
 simp only [Nat.add_zero] at hst
 simp [Builtin.append_,run_underlying ht,Go.sizeOf,typeInfo,hi,hm,hroom,hnews,add_lit,hst]
theorem run_append_grow' (w:World) (t ty e:TypeId) (i:TypeInfo) (z:Value) (ht:P.underlying t = some (.slice e)) (hi:P.info? e = some i) (hz:i.zero = some z)
  (b:Option Addr) (sLen sCap:Nat) (olds:List Value) (holds:(Builtin.firstCells i.size sLen (.slice b sLen sCap)).run P w.drew = .ok olds.toArray w.drew)
  (x:Value) (n:Nat) (hm:Builtin.lenOf x = pure n) (news:List Value) (hnews:(Builtin.firstCells i.size n x).run P w.drew = .ok news.toArray w.drew)
  (hg:sCap < sLen + n) (h63:((sLen + n:Nat):Int) ≤ 9223372036854775807) (hfit:Builtin.nextslicecap (sLen + n) sCap * i.bytes ≤ 281474976710656) :
  (Builtin.append_ #[t,t] ty #[.slice b sLen sCap,x]).run P w =
   .ok (.slice (some ⟨w.heap.size,0,none⟩) (sLen + n) (grownCap w (sLen + n) sCap e))
    (w.drew.alloc (.cells (olds ++ news ++ (Builtin.zeroCells z.cells (grownCap w (sLen + n) sCap e - (sLen + n))).toList).toArray e)):=by
 have hn:¬ (sLen + n ≤ sCap):=by omega
 have h63':¬ (9223372036854775807 < ((sLen:Int) + (n:Int))):=by omega
 have h48':¬ (281474976710656 < Builtin.nextslicecap (sLen + n) sCap * i.bytes):=by omega
 simp [Builtin.append_,run_underlying ht,Go.sizeOf,typeInfo,zeroValue,hi,hz,hm,hn,h63',h48',Question.forced,hnews,holds,newRow,grownCap]
 congr 2
 apply Array.ext'
 simp [List.append_assoc]
theorem lenOf_slice (a:Option Addr) (n cap:Nat):Builtin.lenOf (.slice a n cap) = pure n:=rfl
theorem mx_fits {n m:Nat} (h:a1Z n = true) (h':m ≤ n):m ≤ 1073741824:=by simp only [a1Z,decide_eq_true_eq] at h; omega
theorem run_append_any (w:World) {id e e':TypeId} (ty:TypeId) {t:Ty} (hu:P.underlying id = some (.slice e)) (he:TOk P t e) {i:TypeInfo} (hi:P.info? e = some i) (hby:i.bytes ≤ 131072) (hz:i.zero = some (mkZ t)) (hsz:1 ≤ t.sz)
  (hd:Value) (n:Nat) (xs:List Value) (ho:w.ownsRow 0 e' t.sz hd n xs) (x:Value) (m:Nat) (hm:Builtin.lenOf x = pure m) (news:List Value) (hl:news.length = m * t.sz)
  (hnews:∀ w',(w' = w ∨ w' = w.drew)→(Builtin.firstCells t.sz m x).run P w' = .ok news.toArray w') (h1:∀ u ∈ news,u.oneCell' = true) (hlim:n + m ≤ 1073741824) :
  ∃ hd' w' e'',(Builtin.append_ #[id,id] ty #[hd,x]).run P w = .ok hd' w'∧w'.ownsRow 0 e'' t.sz hd' (n + m) (xs ++ news)∧w.grownBy w' (blkOf hd)∧(∀ r,blkOf hd' = some r→w.heap.size ≤ r ∨ blkOf hd = some r):=by
 have hs:i.size = t.sz:=by have:=he.size; simp [Program.cellsOf,hi] at this; exact this
 have hzc:(mkZ t).cells = (zCells t).toArray:=cells_mkV (zCells_len t) (zCells_one t)
 have hlen:(xs ++ news).length = (n + m) * t.sz:=by rw [List.length_append,ho.1,hl,Nat.add_mul]
 have hbytes:(n + m) * i.bytes ≤ 140737488355328:=Nat.le_trans (Nat.mul_le_mul hlim hby) (by decide)
 have grown:∀ (b:Option Addr) (cap:Nat),cap < n + m→(Builtin.firstCells i.size n (.slice b n cap)).run P w.drew = .ok xs.toArray w.drew→∃ hd' w' e'',(Builtin.append_ #[id,id] ty #[.slice b n cap,x]).run P w = .ok hd' w'∧w'.ownsRow 0 e'' t.sz hd' (n + m) (xs ++ news)∧w.grownBy w' (blkOf (.slice b n cap))∧(∀ r,blkOf hd' = some r→w.heap.size ≤ r ∨ blkOf (.slice b n cap) = some r):=by
  intro b cap hc holds
  have hrun:=run_append_grow' (P:=P) w id ty e i (mkZ t) hu hi hz b n cap xs holds x m hm news (by rw [hs]; exact hnews w.drew (.inr rfl)) hc (by omega) (growslice_fits hc hbytes)
  have hge:=grownCap_ge w (n + m) cap e
  have hcm:grownCap w (n + m) cap e ≤ maxLen:=grownCap_le_maxLen w (n + m) cap e (by simp only [maxLen]; omega)
  refine ⟨_,_,e,hrun,⟨hlen,.inr ⟨w.heap.size,_,_,rfl,Nat.zero_le _,heap_new w.drew _,hge,hcm,?_,?_⟩⟩,⟨rfl,rfl,rfl,by simp,fun k hk _=>heap_old w.drew _ hk⟩,fun r hr=>?_⟩
  ·
   simp only [List.size_toArray,List.length_append,Array.length_toList,size_zeroCells,hzc,zCells_len]
   rw [ho.1,hl,← Nat.add_mul,← Nat.add_mul]
   congr 1
   omega
  ·
   simp only [List.append_assoc]
   rw [← List.append_assoc,← hlen]
   exact List.take_left
  ·
   simp only [blkOf,Option.some.injEq] at hr; left; omega
 rcases own_cells ho with ⟨e1,e2,e3⟩ | ⟨g,cap,cur,e1,e2,e3,e4,e5,e6,e7⟩
 ·
  subst e1 e2 e3
  by_cases h0:m = 0
  ·
   subst h0
   have hn:news = []:=List.eq_nil_of_length_eq_zero (by rw [hl]; simp)
   subst hn
   refine ⟨.slice none 0 0,w,e,?_,⟨by simp,.inl ⟨rfl,rfl⟩⟩,⟨rfl,rfl,rfl,Nat.le_refl _,fun _ _ _=>rfl⟩,fun r hr=>by cases hr⟩
   have:=hnews w (.inl rfl)
   simp [Builtin.append_,run_underlying hu,Go.sizeOf,typeInfo,hi,hs,hm,this]
  ·
   exact grown none 0 (by omega) (by simp [Builtin.firstCells])
 ·
  subst e1
  by_cases hroom:n + m ≤ cap
  ·
   have hfit:n * t.sz + news.length ≤ cur.size:=by rw [hl,e5,← Nat.add_mul]; exact Nat.mul_le_mul_right _ hroom
   have hrun:=run_append_room' (P:=P) w id ty e e' i hu hi g n cap cur e2 x m hm news (by rw [hs]; exact hnews w (.inl rfl)) h1 (by rw [hs]; exact hl) hroom (by rw [hs]; exact hfit)
   rw [hs] at hrun
   refine ⟨_,_,e',hrun,⟨hlen,.inr ⟨g,cap,_,rfl,Nat.zero_le _,setRow_heap w g cur _ e' _ e2,hroom,e4,?_,?_⟩⟩,⟨rfl,rfl,rfl,by simp,fun k _ hk=>setRow_other w g k _ (fun e=>hk (by simp [blkOf,e]))⟩,fun r hr=>.inr hr⟩
   ·
    simp only [List.size_toArray,List.length_append,List.length_take,List.length_drop,Array.length_toList]
    omega
   ·
    rw [e6,← hlen]
    exact List.take_left
  ·
   refine grown (some ⟨g,0,none⟩) cap (by omega) ?_
   rw [hs]
   refine run_firstCells_some (P:=P) w.drew t.sz n ⟨g,0,none⟩ n cap xs ho.1 fun j v hj=>?_
   rw [add_lit]
   have:=e7 j v hj
   rw [World.cell?_drew]
   simp only [World.cell?,e2,Option.isSome_none,Bool.false_eq_true,if_false]
   exact this
theorem firstCells_enc {w:World} {G:Nat→Prop} {t:Ty} {ys:List t.D} {us:List Value} (h:Enc w G (.sl t) ys us):∃ ad cap news,us = [.slice ad ys.length cap]∧news.length = ys.length * t.sz∧EncL (Enc w G t) ys news ∧
  ∀ w',(∀ a,w'.cell? a = w.cell? a)→(Builtin.firstCells t.sz ys.length (.slice ad ys.length cap)).run P w' = .ok news.toArray w':=by
 obtain ⟨ad,cap,hus,hcap,hlim,hr⟩:=h
 have build:∀ (l:List t.D) (r off:Nat),rowAt w (Enc w G t) t.sz r off l→∃ news:List Value,news.length = l.length * t.sz∧EncL (Enc w G t) l news∧cellsAt w r off news:=by
  intro l
  induction l with
  | nil=>intro r off _; exact ⟨[],by simp,rfl,fun j d h=>by simp at h⟩
  | cons y l ih =>
   intro r off hrow
   obtain ⟨ds,h1,h2⟩:=hrow 0 y rfl
   obtain ⟨news,k1,k2,k3⟩:=ih r (off + t.sz) (fun i x hi=>by
    obtain ⟨ds,g1,g2⟩:=hrow (i + 1) x (by simpa using hi)
    exact ⟨ds,g1,by rw [Nat.succ_mul] at g2; rw [show off + t.sz + i * t.sz = off + (i * t.sz + t.sz) by omega]; exact g2⟩)
   have hl:=Enc_len _ _ _ h1
   refine ⟨ds ++ news,by simp [hl,k1,Nat.succ_mul]; omega,⟨ds,news,rfl,h1,k2⟩,fun j d hj=>?_⟩
   by_cases hjl:j < ds.length
   ·
    rw [List.getElem?_append_left hjl] at hj
    have:=h2 j d hj
    simpa using this
   ·
    rw [List.getElem?_append_right (by omega)] at hj
    have:=k3 _ d hj
    rw [show off + t.sz + (j - ds.length) = off + j by omega] at this
    exact this
 rcases hr with hr | ⟨⟨r,q,spot⟩,rfl,hsp,hG,hrow⟩
 ·
  have hr:ys = []:=hr
  subst hr
  refine ⟨ad,cap,[],hus,by simp,rfl,fun w' _=>?_⟩
  cases ad with
  | none=>simp [Builtin.firstCells]
  | some q=>simp [Builtin.firstCells,loadCells,loadCellsFrom]
 ·
  simp only at hsp hG hrow
  subst hsp
  obtain ⟨news,k1,k2,k3⟩:=build ys r q hrow
  refine ⟨_,cap,news,hus,k1,k2,fun w' hw'=>?_⟩
  refine run_firstCells_some (P:=P) w' t.sz ys.length ⟨r,q,none⟩ ys.length cap news k1 fun j v hj=>?_
  rw [add_lit,hw']
  exact k3 j v hj
theorem EncL_one {w:World} {G:Nat→Prop} {t:Ty}:∀ (l:List t.D) (xs:List Value),EncL (Enc w G t) l xs→∀ v ∈ xs,v.oneCell' = true
 | [],_,h,v,hv=>by simp only [EncL] at h; subst h; simp at hv
 | x :: l,_,h,v,hv=>by
  obtain ⟨c1,c2,rfl,h1,h2⟩:=h
  simp only [List.mem_append] at hv
  exact hv.elim (Enc_one _ _ _ h1 v) (EncL_one l c2 h2 v)
theorem exec_append {k:Call} {x y:Operand} (ho:o.op = .call k) (hk:k.callee = .builtin .append) (hargs:k.args = #[x,y]):execOp a.eval o = (do pure (.value (← Builtin.append_ k.argTypes o.type #[a.eval x,a.eval y]))):=by
 obtain ⟨cs,h⟩:=exec_builtin (a:=a) ho hk
 rw [h,hargs]
 simp only [builtin,List.map_toArray,List.map_cons,List.map_nil]
theorem law_append_nils (hM:Mem base G0 own0 c) {k:Call} {x y:Operand} (ho:o.op = .call k) (hk:k.callee = .builtin .append) (hargs:k.args = #[x,y]) {id:TypeId} (hat:k.argTypes = #[id,id]) {t:Ty} (ht:TI P id (.sl t)) (hq:t.noOpq = true) (hsz:1 ≤ t.sz)
  {py:PV} {ys:List t.D} {lent:List Nat} (hx:VOk c .nils (a.eval x)) (hy:VOk c py (a.eval y)) (hv:toVal c.H (.sl t) py = some (ys,lent)) (hfl:a1Z ys.length = true) {nb:Nat} (hn:a0K c.H nb = .unborn) :
  OpRes P base G0 own0 o a c (.whole nb) (kill (lentE t lent) ++ [(nb,.row t ys)]):=by
 obtain ⟨e,hu,he,i,hi,hby,hz⟩:=ht.elem t rfl
 have hz:=hz.resolve_right (by rintro rfl; cases hq)
 obtain ⟨us,_,hvu,hen⟩:=toVal_v hM hy hv
 obtain ⟨cs,hc,hxv⟩:=hx
 simp only [a1H] at hc
 subst hc
 have hxv:a.eval x = .slice none 0 0:=hxv
 obtain ⟨ad,cap,news,rfl,hnl,hne,hfc⟩:=firstCells_enc (P:=P) hen
 have hyv:a.eval y = .slice ad ys.length cap:=hvu
 have hlim:ys.length ≤ 1073741824:=mx_fits hfl (Nat.le_refl _)
 obtain ⟨hd',w',e'',hrun,hown,hg,hnew⟩:=run_append_any (P:=P) c.w o.type hu he hi hby hz hsz (.slice none 0 0) 0 [] (e':=e) ⟨by simp,.inl ⟨rfl,rfl⟩⟩ (.slice ad ys.length cap) ys.length rfl news hnl
  (fun w' hw'=>hfc w' (by rcases hw' with rfl | rfl <;> intro a <;> rfl)) (EncL_one ys news hne) (by omega)
 obtain ⟨c1,h1,h2,h3,h4,h5,h6,h7⟩:=lendE hM t lent (toVal_live _ _ _ _ _ hv)
 have hnl':nb ∉ lent:=fun h=>by have:=toVal_live _ _ _ _ _ hv nb h; rw [hn] at this; cases this
 rw [← h1] at hg hnew
 rw [Nat.zero_add,List.nil_append] at hown
 obtain ⟨c2,k1,k2,k3,k4,k5⟩:=mem_row h5 ((h6 nb hnl').trans hn) (t:=t) (l:=ys) none (by simpa [blkOf] using hg) hown (EncL_mono (fun x cs=>h7 x cs) ys news hne) (by simp only [LIM]; omega) none (fun i h=>by cases h) (fun r h=>by cases h)
  (fun r h=>by rcases hnew r h with h' | h'; exact .inl h'; cases h')
 refine opres_value (c':=c2) ?_ (h4.trans k3) k4 (by rw [k2,h2,← putBlks_app]; rfl) k5
 rw [k1,exec_append ho hk hargs,hat,hxv,hyv]
 simp only [Sem.run_bind,hrun,Result.andThen_ok,Sem.run_pure]
theorem zero_flat (z:List Value) (n:Nat):(Builtin.zeroCells z.toArray n).toList = (repL n z).flatten:=by
 apply List.ext_getElem?
 intro j
 by_cases hj:j < n * z.length
 ·
  have hpos:0 < z.length:=by
   rcases Nat.eq_zero_or_pos z.length with h | h
   ·
    rw [h] at hj; simp at hj
   ·
    exact h
  rw [flat_get _ hpos _ _ hj]
  have hm:=Nat.mod_lt j hpos
  simp [Builtin.zeroCells,hj,List.getElem?_eq_getElem hm,getElem!_pos,hm]
 ·
  rw [List.getElem?_eq_none (by simp [Builtin.zeroCells]; omega),List.getElem?_eq_none (by rw [flat_len]; omega)]
theorem law_append_zeros (hM:Mem base G0 own0 c) {k:Call} {x y:Operand} (ho:o.op = .call k) (hk:k.callee = .builtin .append) (hargs:k.args = #[x,y]) {id tn:TypeId} (hat:k.argTypes = #[id,tn]) {t:Ty} (ht:TI P id (.sl t)) {kk:IntKind} (htn:TI P tn (.int kk)) (hq:t.noOpq = true) (hsz:1 ≤ t.sz)
  {kn:IntKind} {n:I kn} (h1:I.ltb (I.of kn 0) n = true) (h2:inB' n 1073741824 = true) (hx:VOk c .nils (a.eval x)) (hy:VOk c (.val (.int kn) n) (a.eval y)) {nb:Nat} (hn:a0K c.H nb = .unborn) :
  OpRes P base G0 own0 o a c (.whole nb) [(nb,.row t (repL n.nat t.zero))]:=by
 obtain ⟨e,hu,he,i,hi,hby,hz⟩:=ht.elem t rfl
 have hz:=hz.resolve_right (by rintro rfl; cases hq)
 obtain ⟨cs,hc,hxv⟩:=hx
 simp only [a1H] at hc
 subst hc
 have hxv:a.eval x = .slice none 0 0:=hxv
 obtain ⟨cs,hc,hyv⟩:=hy
 simp only [a1H,Enc] at hc
 subst hc
 obtain ⟨b1,b2,b3,b4⟩:=inB'_iff h2
 have hpos:0 < n.nat:=by
  have h0:(I.of kn 0).val = 0:=wrap_zero kn
  have:(I.of kn 0).val < n.val:=by simpa [I.ltb] using h1
  omega
 have hyv:a.eval y = .int kn (n.nat:Int):=by rw [← b4]; exact hyv
 have hs:i.size = t.sz:=by have:=he.size; simp [Program.cellsOf,hi] at this; exact this
 have hzc:(mkZ t).cells = (zCells t).toArray:=cells_mkV (zCells_len t) (zCells_one t)
 have hbytes:n.nat * i.bytes ≤ 140737488355328:=Nat.le_trans (Nat.mul_le_mul b3 hby) (by decide)
 have hrun:=Lib.run_append_nil_zeros (P:=P) c.w id tn o.type e i (mkZ t) kn kk hu htn.ok.2 hi hz n.nat hpos (by omega) (by omega) (by omega)
 have hge:=grownCap_ge c.w n.nat 0 e
 have hcm:grownCap c.w n.nat 0 e ≤ maxLen:=grownCap_le_maxLen c.w n.nat 0 e (by simp only [maxLen]; omega)
 obtain ⟨c2,k1,k2,k3,k4,k5⟩:=mem_row hM hn (t:=t) (l:=repL n.nat t.zero) (e:=e) (xs:=(repL n.nat (zCells t)).flatten) none
  (w':=c.w.drew.alloc (.cells (Builtin.zeroCells (mkZ t).cells n.nat ++ Builtin.zeroCells (mkZ t).cells (grownCap c.w n.nat 0 e - n.nat)) e)) (hd:=.slice (some ⟨c.w.heap.size,0,none⟩) n.nat (grownCap c.w n.nat 0 e))
  ⟨rfl,rfl,rfl,by simp,fun k hk _=>heap_old c.w.drew _ hk⟩
  (by
   rw [repL_len]
   refine ⟨by rw [flat_len,zCells_len],.inr ⟨c.w.heap.size,_,_,rfl,Nat.zero_le _,heap_new c.w.drew _,hge,hcm,?_,?_⟩⟩
   ·
    simp only [Array.size_append,size_zeroCells,hzc,List.size_toArray,zCells_len]
    rw [← Nat.add_mul]
    congr 1
    omega
   ·
    rw [hzc,Array.toList_append,zero_flat,zero_flat]
    exact List.take_left' (by rw [flat_len,zCells_len]))
  (EncL_zero hq n.nat) (by rw [repL_len]; simp only [LIM]; omega) none (fun i h=>by cases h) (fun r h=>by cases h) (fun r h=>by simp only [blkOf,Option.some.injEq] at h; left; omega)
 refine opres_value (c':=c2) ?_ k3 k4 (by simpa [oldDead] using k2) k5
 rw [k1,exec_append ho hk hargs,hat,hxv,hyv]
 simp only [Sem.run_bind,hrun,Result.andThen_ok,Sem.run_pure]
theorem law_append_own (hM:Mem base G0 own0 c) {k:Call} {x y:Operand} (ho:o.op = .call k) (hk:k.callee = .builtin .append) (hargs:k.args = #[x,y]) {id:TypeId} (hat:k.argTypes = #[id,id]) {t:Ty} (ht:TI P id (.sl t)) (hq:t.noOpq = true) (hsz:1 ≤ t.sz)
  {py:PV} {ys:List t.D} {lent:List Nat} {b:Nat} {l:List t.D} (hb:a0K c.H b = .row t l) (hnb:b ∉ lent) (hx:VOk c (.whole b) (a.eval x)) (hy:VOk c py (a.eval y)) (hv:toVal c.H (.sl t) py = some (ys,lent)) (hfl:a1Z (l ++ ys).length = true) {nb:Nat} (hn:a0K c.H nb = .unborn) :
  OpRes P base G0 own0 o a c (.whole nb) (kill (lentE t lent) ++ [(b,.dead),(nb,.row t (l ++ ys))]):=by
 obtain ⟨e,hu,he,i,hi,hby,hz⟩:=ht.elem t rfl
 have hz:=hz.resolve_right (by rintro rfl; cases hq)
 obtain ⟨us,_,hvu,hen⟩:=toVal_v hM hy hv
 obtain ⟨ad,cap,news,rfl,hnl,hne,hfc⟩:=firstCells_enc (P:=P) hen
 have hyv:a.eval y = .slice ad ys.length cap:=hvu
 obtain ⟨c1,h1,h2,h3,h4,h5,h6,h7⟩:=lendE hM t lent (toVal_live _ _ _ _ _ hv)
 have hx1:=v_ext h4 hx
 have hb1:=(h6 b hnb).trans hb
 obtain ⟨cs,⟨v,rfl,_,hw⟩,hxv⟩:=hx1
 have hB:=h5.blk b
 unfold WholeOk at hw
 unfold BlkOk at hB
 simp only [hb1] at hw hB
 obtain ⟨hlim0,e0,xs,hown0,hx0⟩:=hB
 have hxv:a.eval x = c1.ρ b:=by rw [← hw]; exact hxv
 have hlim:l.length + ys.length ≤ 1073741824:=by rw [← List.length_append]; exact mx_fits hfl (Nat.le_refl _)
 have hne1:=EncL_mono (fun x cs=>h7 x cs) ys news hne
 obtain ⟨hd',w',e'',hrun,hown,hg,hnew⟩:=run_append_any (P:=P) c1.w o.type hu he hi hby hz hsz (c1.ρ b) l.length xs hown0 (.slice ad ys.length cap) ys.length rfl news hnl
  (fun w' hw'=>hfc w' (by rcases hw' with rfl | rfl <;> intro a <;> first | (rw [h1]; done) | (rw [h1]; rfl))) (EncL_one ys news hne) hlim
 have hbn:b ≠ nb:=by rintro rfl; rw [hb] at hn; cases hn
 have hnl':nb ∉ lent:=fun h=>by have:=toVal_live _ _ _ _ _ hv nb h; rw [hn] at this; cases this
 obtain ⟨c2,k1,k2,k3,k4,k5⟩:=mem_row h5 ((h6 nb hnl').trans hn) (t:=t) (l:=l ++ ys) (blkOf (c1.ρ b)) hg (by rw [List.length_append]; exact hown) (EncL_app l ys xs news hx0 hne1) (by rw [List.length_append]; simp only [LIM]; omega) (some b)
  (fun i h=>by cases h; exact ⟨by rw [hb1]; rfl,hbn⟩) (fun r h _=>⟨b,rfl,h⟩) (fun r h=>(hnew r h).imp _root_.id fun h=>⟨b,rfl,h⟩)
 refine opres_value (c':=c2) ?_ (h4.trans k3) k4 (by rw [k2,h2,← putBlks_app]; rfl) k5
 rw [k1,exec_append ho hk hargs,hat,hxv,hyv,← h1]
 simp only [Sem.run_bind,hrun,Result.andThen_ok,Sem.run_pure]
end
end Sym

/- The laws of single operations, eleventh part: copy of a part of an array of whole numbers over a whole one. -/
namespace Sym
open Go
variable {P:Program} {base:World} {G0 own0:Nat→Prop} {c:Cx} {a:Act} {o:Oper}
theorem EncL_drop1 {X:Type} {E:X→List Value→Prop} (h1:∀ x cs,E x cs→cs.length = 1):∀ (n:Nat) (l:List X) (cs:List Value),EncL E l cs→EncL E (l.drop n) (cs.drop n)
 | 0,_,_,h=>h
 | n + 1,[],cs,h=>by simp only [EncL] at h; subst h; rfl
 | n + 1,x :: l,cs,h=>by
  obtain ⟨c1,c2,rfl,e1,e2⟩:=h
  have:=h1 _ _ e1
  match c1,this with
  | [v],_=>exact EncL_drop1 h1 n l c2 e2
theorem EncL_take1 {X:Type} {E:X→List Value→Prop} (h1:∀ x cs,E x cs→cs.length = 1):∀ (n:Nat) (l:List X) (cs:List Value),EncL E l cs→EncL E (l.take n) (cs.take n)
 | 0,_,_,h=>rfl
 | n + 1,[],cs,h=>by simp only [EncL] at h; subst h; rfl
 | n + 1,x :: l,cs,h=>by
  obtain ⟨c1,c2,rfl,e1,e2⟩:=h
  have:=h1 _ _ e1
  match c1,this,e1 with
  | [v],_,e1=>exact ⟨[v],c2.take n,rfl,e1,EncL_take1 h1 n l c2 e2⟩
theorem EncArr_ofList {X:Type} {E:X→List Value→Prop} (d:X):∀ (n:Nat) (l:List X) (cs:List Value),l.length = n→EncL E l cs→EncArr E n (Arr.ofList d n l) cs
 | 0,l,cs,hl,h=>by
  match l,hl with
  | [],_=>exact h
 | n + 1,x :: l,cs,hl,h=>by
  obtain ⟨c1,c2,e,e1,e2⟩:=h
  exact ⟨c1,c2,e,e1,EncArr_ofList d n l c2 (by simpa using hl) e2⟩
 | n + 1,[],cs,hl,h=>by simp at hl
theorem Enc_int1 {w:World} {G:Nat→Prop} {k:IntKind} (x:(Ty.int k).D) (cs:List Value) (h:Enc w G (.int k) x cs):cs.length = 1:=by
 simp only [Enc] at h; subst h; rfl
theorem Enc_int_one {w:World} {G:Nat→Prop} {k:IntKind}:∀ (l:List (I k)) (cs:List Value),EncL (Enc w G (.int k)) l cs→∀ v ∈ cs,v.oneCell' = true
 | [],cs,h=>by simp only [EncL] at h; subst h; simp
 | x :: l,cs,h=>by
  obtain ⟨c1,c2,rfl,e1,e2⟩:=h
  simp only [Enc] at e1
  subst e1
  intro v hv
  simp only [List.cons_append,List.nil_append,List.mem_cons] at hv
  rcases hv with rfl | hv
  ·
   rfl
  ·
   exact Enc_int_one l c2 e2 v hv
theorem exec_copy {k:Call} {x y:Operand} (ho:o.op = .call k) (hk:k.callee = .builtin .copy) (hargs:k.args = #[x,y]):execOp a.eval o = (do pure (.value (← Builtin.copy_ k.argTypes o.type #[a.eval x,a.eval y]))):=by
 obtain ⟨cs,h⟩:=exec_builtin (a:=a) ho hk
 rw [h,hargs]
 simp only [builtin,List.map_toArray,List.map_cons,List.map_nil]
theorem add_plain (b o j:Nat):(⟨b,o,none⟩:Addr).add j = ⟨b,o + j,none⟩:=by unfold Addr.add; split <;> simp_all
theorem law_copy (hM:Mem base G0 own0 c) {k:Call} {x y:Operand} (ho:o.op = .call k) (hk:k.callee = .builtin .copy) (hargs:k.args = #[x,y]) {id id2:TypeId} (hat:k.argTypes = #[id,id2]) {kd:IntKind} (ht:TI P id (.sl (.int kd)))
  {b b2 m m2 lo:Nat} {v:PV} {s:Ty} {z:(Ty.arr m2 (.int kd)).D} (hx:VOk c (.aview b [] 0 m) (a.eval x)) (hy:VOk c (.aview b2 [] lo m) (a.eval y)) (hb:a0K c.H b = .box (.arr m (.int kd)) v) (hb2:a0K c.H b2 = .box s (.val (.arr m2 (.int kd)) z)) (hm:1 ≤ m) (hm2:m ≤ 1048576) :
  OpRes P base G0 own0 o a c (.val (.int .i64) (I.ofNat .i64 m)) [(b,.box (.arr m (.int kd)) (.val (.arr m (.int kd)) (Arr.ofList (I.of kd 0) m (subL (Arr.list m2 z) lo m))))]:=by
 obtain ⟨e,hu,he,i,hi,hby,hz⟩:=ht.elem (.int kd) rfl
 have hs:(P.info? e).map (·.size) = some 1:=by
  have:=he.size
  simp [Program.cellsOf,hi] at this
  rw [hi]
  exact congrArg some this
 obtain ⟨_,⟨xv,rfl,_,hxa⟩,hxe⟩:=hx
 obtain ⟨_,⟨yv,rfl,_,hya⟩,hye⟩:=hy
 have hxe:a.eval x = xv:=hxe
 have hye:a.eval y = yv:=hye
 have hB:=hM.blk b
 have hB2:=hM.blk b2
 unfold AviewOk at hxa hya
 unfold BlkOk at hB hB2
 simp only [hb] at hxa hB
 simp only [hb2] at hya hB2
 obtain ⟨r,o1,m1,u1,hρ,hoff,hle,_,hsl⟩:=hxa
 obtain ⟨r',cs,ty,hρ',hh,hc,hf⟩:=hB
 obtain ⟨r2,o2,m3,u3,hρ2,hoff2,hle2,_,hsl2⟩:=hya
 obtain ⟨r2',cs2,ty2,hρ2',hh2,hc2,hf2⟩:=hB2
 have hρ0:=hρ'
 rw [hρ'] at hρ
 simp only [Value.pointer.injEq,Option.some.injEq,Addr.mk.injEq] at hρ
 obtain ⟨rfl,_,_⟩:=hρ
 rw [hρ2'] at hρ2
 simp only [Value.pointer.injEq,Option.some.injEq,Addr.mk.injEq] at hρ2
 obtain ⟨rfl,_,_⟩:=hρ2
 have hse:=Ty.beq_eq hf2
 subst hse
 simp only [offTy,Option.some.injEq,Prod.mk.injEq,Ty.arr.injEq] at hoff hoff2
 obtain ⟨rfl,rfl,rfl⟩:=hoff
 obtain ⟨rfl,rfl,rfl⟩:=hoff2
 have hcl:cs.length = m:=by
  have:=cells_len _ _ _ hc hf
  simpa [Ty.sz] using this
 have hEL:=EncArr_list m2 z cs2 hc2
 have hcl2:cs2.length = m2:=by
  have:=cells_len _ _ _ hc2 hf2
  simpa [Ty.sz] using this
 rcases hsl with ⟨h0,_⟩ | ⟨cap,rfl,hcap,_⟩
 ·
  omega
 rcases hsl2 with ⟨h0,_⟩ | ⟨cap2,rfl,hcap2,_⟩
 ·
  omega
 have hsub:EncL (Enc c.w c.G (.int kd)) (subL (Arr.list m2 z) lo m) ((cs2.drop lo).take m):=by
  have:=EncL_take1 (Enc_int1 (w:=c.w) (G:=c.G) (k:=kd)) m _ _ (EncL_drop1 (Enc_int1 (w:=c.w) (G:=c.G) (k:=kd)) lo _ _ hEL)
  exact this
 have hsl:(subL (Arr.list m2 z) lo m).length = m:=by
  have hll:(Arr.list m2 z).length = m2:=Arr.list_len m2 z
  show (((Arr.list m2 z).drop lo).take m).length = m
  rw [List.length_take,List.length_drop,hll]
  omega
 have hnew:a1H c (.val (.arr m (.int kd)) (Arr.ofList (I.of kd 0) m (subL (Arr.list m2 z) lo m))) ((cs2.drop lo).take m):=EncArr_ofList _ _ _ _ hsl hsub
 have hlen:((cs2.drop lo).take m).length = m:=by
  simp only [List.length_take,List.length_drop]
  omega
 obtain ⟨c',h1,h2,h3,h4⟩:=mem_store hM hb hρ0 hh hnew (Ty.beq_refl _)
 refine opres_value (c':=c') (v:=goInt m) ?_ h3 h4 h2 ?_
 ·
  have hrun:=run_copy_row (P:=P) c.w id id2 o.type e r' 0 m cap ⟨r2',0 + lo * (Ty.int kd).sz,none⟩ m cap2 cs.toArray ty ((cs2.drop lo).take m) hu hs hh (by rw [hlen]; simp) (fun j d hj=>?_) (by rw [hlen]; simp; omega) (Enc_int_one _ _ hsub)
  ·
   have hset:(cs.toArray.toList.take 0 ++ (cs2.drop lo).take m ++ cs.toArray.toList.drop (0 + ((cs2.drop lo).take m).length)).toArray = ((cs2.drop lo).take m).toArray:=by
    rw [hlen]
    simp [hcl]
   rw [hset,hlen] at hrun
   rw [h1,exec_copy ho hk hargs,hat,hxe,hye]
   have e0:(0:Nat) + 0 * (Ty.int kd).sz = 0:=by simp
   rw [e0]
   simp only [Sem.run_bind,hrun,Result.andThen_ok,Sem.run_pure]
  ·
   rw [List.getElem?_take] at hj
   split at hj
   ·
    rw [List.getElem?_drop] at hj
    have hz1:(Ty.int kd).sz = 1:=rfl
    have hlt:lo + j < cs2.length:=(List.getElem?_eq_some_iff.1 hj).1
    have ha:(⟨r2',0 + lo * (Ty.int kd).sz,none⟩:Addr).add j = ⟨r2',lo + j,none⟩:=by
     rw [add_plain,hz1]
     simp
    rw [ha]
    simp [World.cell?,hh2,hj]
   ·
    cases hj
 ·
  have hv:(I.ofNat .i64 m).val = m:=by
   show IntKind.i64.wrap (m:Int) = m
   refine wrap_eq_of_range ⟨?_,?_⟩
   ·
    have:IntKind.i64.min = -9223372036854775808:=by decide
    omega
   ·
    have:IntKind.i64.max = 9223372036854775807:=by decide
    omega
  have:=ok_int (c:=c') (I.ofNat .i64 m)
  rw [hv] at this
  exact this
end Sym

/- Laws: interfaces, closures, slices held against nil, rows cut short. -/
namespace Sym
open Go
section
variable {P:Program} {base:World} {G0 own0:Nat→Prop} {o:Oper} {a:Act} {c:Cx}
theorem plain_cells' {pv:PV} {v:Value} (h:VOk c pv v) (hp:plainPV pv = true):∃ cs,a1H c pv cs∧v = mkV (isAggPV pv) cs:=by
 cases pv with
 | tup a=>cases hp
 | undef=>cases hp
 | _=>exact h
theorem cells_v {pv:PV} {cs:List Value} (h:a1H c pv cs):VOk c pv (mkV (isAggPV pv) cs):=by
 cases pv with
 | tup a=>exact h.elim
 | undef=>exact h.elim
 | _=>exact ⟨cs,h,rfl⟩
theorem TOk.not_iface {t:Ty} {id:TypeId} (h:TOk P t id):∃ d,P.underlying id = some d∧∀ ms,d ≠ .interface ms:=by
 cases t with
 | int k=>exact ⟨_,h.2,by simp⟩
 | bool=>exact ⟨_,h.2,by simp⟩
 | str=>exact ⟨_,h.2,by simp⟩
 | nil=>exact ⟨_,h.2,by simp⟩
 | cons a b=>obtain ⟨_,fs,f,r,h1,_⟩:=h; exact ⟨_,h1,by simp⟩
 | arr n t=>obtain ⟨_,e,h1,_⟩:=h; exact ⟨_,h1,by simp⟩
 | sl t=>obtain ⟨_,e,h1,_⟩:=h; exact ⟨_,h1,by simp⟩
 | opq =>
  obtain ⟨_,d,h1,h2⟩:=h
  refine ⟨d,h1,?_⟩
  rintro ms rfl
  cases h2
 | fnc =>
  obtain ⟨_,d,h1,h2⟩:=h
  refine ⟨d,h1,?_⟩
  rintro ms rfl
  cases h2
theorem law_makeInterface (hM:Mem base G0 own0 c) {id:TypeId} {x:Operand} (ho:o.op = .makeInterface id x) {t:Ty} (ht:TOk P t id) {px:PV} (hp:plainPV px = true) (hx:VOk c px (a.eval x)):OpRes P base G0 own0 o a c (.iface id px) []:=by
 obtain ⟨cs,h1,h2⟩:=plain_cells' hx hp
 obtain ⟨d,hd,hne⟩:=ht.not_iface
 refine a1L hM (v:=.iface id (a.eval x)) ?_ ⟨[.iface id (a.eval x)],⟨cs,by rw [h2],h1⟩,rfl⟩
 simp only [execOp,ho,Instr.makeInterface,Sem.run_bind,run_underlying hd,Result.andThen_ok]
 cases d <;> first | rfl | exact absurd rfl (hne _)
theorem law_typeAssert (hM:Mem base G0 own0 c) {x:Operand} {xt id:TypeId} {ok:Bool} (ho:o.op = .typeAssert x xt id ok) {t:Ty} (ht:TOk P t id) {px:PV} (hx:VOk c (.iface id px) (a.eval x)) :
  OpRes P base G0 own0 o a c (match ok with | true=>.tup (.pair px (.pair (.val .bool true) (.val .nil ()))) | false=>px) []:=by
 obtain ⟨cs,⟨ds,h1,h2⟩,h3⟩:=hx
 subst h1
 have h3:a.eval x = .iface id (mkV (isAggPV px) ds):=h3
 obtain ⟨d,hd,hne⟩:=ht.not_iface
 have hr:(Instr.typeAssert (.iface id (mkV (isAggPV px) ds)) xt id ok).run P c.w = .ok (if ok then .tuple #[mkV (isAggPV px) ds,.bool true] else mkV (isAggPV px) ds) c.w:=by
  simp only [Instr.typeAssert,Sem.run_bind,run_underlying hd,Result.andThen_ok]
  cases d <;> first | (simp; done) | exact absurd rfl (hne _)
 cases ok with
 | true =>
  refine a1L hM (v:=.tuple #[mkV (isAggPV px) ds,.bool true]) ?_ ⟨[mkV (isAggPV px) ds,.bool true],rfl,⟨ds,[.bool true],rfl,h2,⟨[.bool true],[],rfl,rfl,rfl⟩⟩⟩
  simp only [execOp,ho,h3,Sem.run_bind,hr,Result.andThen_ok]
  rfl
 | false =>
  refine a1L hM (v:=mkV (isAggPV px) ds) ?_ (cells_v h2)
  simp only [execOp,ho,h3,Sem.run_bind,hr,Result.andThen_ok]
  rfl
theorem cap_cells:∀ (l:List PV) (us:List Value),l.all oneC = true→All2 (VOk c) l us→a1H c (l.foldr .pair (.val .nil ())) us
 | [],[],_,_=>rfl
 | p :: l,u :: us,h,ha=>by
  simp only [List.all_cons,Bool.and_eq_true] at h
  have hu:a1H c p [u]:=by
   have h1:=h.1
   cases p with
   | tup _=>cases h1
   | undef=>cases h1
   | pair _ _=>cases h1
   | val t x =>
    obtain ⟨cs,k1,k2⟩:=ha.1
    simp only [oneC,Bool.not_eq_true'] at h1
    have hl:=Enc_len _ _ _ k1
    have hs:t.sz = 1:=by cases t <;> first | rfl | cases h1
    have:cs = [u]:=by
     match cs,hl with
     | [w],_=>rw [k2]; simp only [isAggPV,h1]; rfl
     | [],hl=>simp [hs] at hl
     | _ :: _ :: _,hl=>simp [hs] at hl
    rw [← this]; exact k1
   | nils=>obtain ⟨cs,k1,k2⟩:=ha.1; simp only [a1H] at k1; subst k1; rw [k2]; rfl
   | npt=>obtain ⟨cs,k1,k2⟩:=ha.1; simp only [a1H] at k1; subst k1; rw [k2]; rfl
   | fn f=>obtain ⟨cs,k1,k2⟩:=ha.1; simp only [a1H] at k1; subst k1; rw [k2]; rfl
   | ptr b q=>obtain ⟨cs,⟨v,k1,k3⟩,k2⟩:=ha.1; subst k1; rw [k2]; exact ⟨v,rfl,k3⟩
   | bptr t x=>obtain ⟨cs,⟨ad,ds,k1,k3⟩,k2⟩:=ha.1; subst k1; rw [k2]; exact ⟨ad,ds,rfl,k3⟩
   | whole b=>obtain ⟨cs,⟨v,k1,k3⟩,k2⟩:=ha.1; subst k1; rw [k2]; exact ⟨v,rfl,k3⟩
   | row b lo n=>obtain ⟨cs,⟨v,k1,k3⟩,k2⟩:=ha.1; subst k1; rw [k2]; exact ⟨v,rfl,k3⟩
   | aview b q lo n=>obtain ⟨cs,⟨v,k1,k3⟩,k2⟩:=ha.1; subst k1; rw [k2]; exact ⟨v,rfl,k3⟩
   | cut b k=>obtain ⟨cs,⟨v,k1,k3⟩,k2⟩:=ha.1; subst k1; rw [k2]; exact ⟨v,rfl,k3⟩
   | iface t v=>obtain ⟨cs,⟨ds,k1,k3⟩,k2⟩:=ha.1; subst k1; rw [k2]; exact ⟨ds,rfl,k3⟩
   | clo f v=>obtain ⟨cs,⟨us,k1,k3⟩,k2⟩:=ha.1; subst k1; rw [k2]; exact ⟨us,rfl,k3⟩
  exact ⟨[u],us,rfl,hu,cap_cells l us h.2 ha.2⟩
 | [],_ :: _,_,h=>h.elim
 | _ :: _,[],_,h=>h.elim
theorem one_cells {p:PV} {cs:List Value} (h:oneC p = true) (hc:a1H c p cs):∃ u,cs = [u]∧VOk c p u:=by
 cases p with
 | tup _=>cases h
 | undef=>cases h
 | pair _ _=>cases h
 | val t x =>
  simp only [oneC,Bool.not_eq_true'] at h
  have hl:=Enc_len _ _ _ hc
  have hs:t.sz = 1:=by cases t <;> first | rfl | cases h
  match cs,hl,hc with
  | [w],_,hc=>exact ⟨w,rfl,[w],hc,by simp only [isAggPV,h]; rfl⟩
  | [],hl,_=>simp [hs] at hl
  | _ :: _ :: _,hl,_=>simp [hs] at hl
 | nils=>have k1:=hc; simp only [a1H] at k1; subst k1; exact ⟨_,rfl,_,hc,rfl⟩
 | npt=>have k1:=hc; simp only [a1H] at k1; subst k1; exact ⟨_,rfl,_,hc,rfl⟩
 | fn f=>have k1:=hc; simp only [a1H] at k1; subst k1; exact ⟨_,rfl,_,hc,rfl⟩
 | ptr b q=>obtain ⟨v,k1,_⟩:=id hc; subst k1; exact ⟨v,rfl,_,hc,rfl⟩
 | bptr t x=>obtain ⟨ad,ds,k1,_⟩:=id hc; subst k1; exact ⟨_,rfl,_,hc,rfl⟩
 | whole b=>obtain ⟨v,k1,_⟩:=id hc; subst k1; exact ⟨v,rfl,_,hc,rfl⟩
 | row b lo n=>obtain ⟨v,k1,_⟩:=id hc; subst k1; exact ⟨v,rfl,_,hc,rfl⟩
 | aview b q lo n=>obtain ⟨v,k1,_⟩:=id hc; subst k1; exact ⟨v,rfl,_,hc,rfl⟩
 | cut b k=>obtain ⟨v,k1,_⟩:=id hc; subst k1; exact ⟨v,rfl,_,hc,rfl⟩
 | iface t v=>obtain ⟨ds,k1,_⟩:=id hc; subst k1; exact ⟨_,rfl,_,hc,rfl⟩
 | clo f v=>obtain ⟨us,k1,_⟩:=id hc; subst k1; exact ⟨_,rfl,_,hc,rfl⟩
theorem cap_list:∀ (cap:PV) (us:List Value),capOk cap = true→a1H c cap us→All2 (VOk c) (capList cap) us
 | .pair p r,us,h,hc=>by
  simp only [capOk,Bool.and_eq_true] at h
  obtain ⟨c1,c2,e,h1,h2⟩:=hc
  obtain ⟨u,e1,hu⟩:=one_cells h.1 h1
  subst e1 e
  exact ⟨hu,cap_list r c2 h.2 h2⟩
 | .val .nil _,us,_,hc=>by
  have:us = []:=hc
  subst this; exact trivial
 | .val (.int _) _,_,h,_=>by cases h
 | .val .bool _,_,h,_=>by cases h
 | .val .str _,_,h,_=>by cases h
 | .val (.cons _ _) _,_,h,_=>by cases h
 | .val (.arr _ _) _,_,h,_=>by cases h
 | .val (.sl _) _,_,h,_=>by cases h
 | .val .opq _,_,h,_=>by cases h
 | .val .fnc _,_,h,_=>by cases h
 | .nils,_,h,_=>by cases h
 | .tup _,_,h,_=>by cases h
 | .ptr _ _,_,h,_=>by cases h
 | .bptr _ _,_,h,_=>by cases h
 | .npt,_,h,_=>by cases h
 | .whole _,_,h,_=>by cases h
 | .row _ _ _,_,h,_=>by cases h
 | .aview _ _ _ _,_,h,_=>by cases h
 | .fn _,_,h,_=>by cases h
 | .iface _ _,_,h,_=>by cases h
 | .clo _ _,_,h,_=>by cases h
 | .cut _ _,_,h,_=>by cases h
 | .undef,_,h,_=>by cases h
theorem law_makeFunc (hM:Mem base G0 own0 c) {f:FuncId} {first caps:Array Operand} (ho:o.op = .makeFunc (.func f) first caps) (h0:first.size = 0) {args:List PV} (h1:args.all oneC = true) (ha:All2 (VOk c) args ((first ++ caps).toList.map a.eval)) :
  OpRes P base G0 own0 o a c (cloPV f args) []:=by
 have hf:first = #[]:=Array.eq_empty_of_size_eq_zero h0
 subst hf
 simp only [Array.empty_append] at ha
 have hr:(execOp a.eval o).run P c.w = .ok (.value (.func (.func f) #[] (caps.toList.map a.eval).toArray)) c.w:=by
  have hc:caps.map a.eval = (caps.toList.map a.eval).toArray:=by apply Array.ext'; simp
  simp [execOp,ho,Instr.makeFunc,Sem.run_bind,Sem.run_pure,Result.andThen_ok,hc]
 refine a1L hM hr ?_
 cases args with
 | nil =>
  cases hc:caps.toList.map a.eval with
  | nil=>exact ⟨_,rfl,rfl⟩
  | cons u us=>rw [hc] at ha; exact ha.elim
 | cons p l=>exact ⟨_,⟨_,rfl,cap_cells (p :: l) _ h1 ha⟩,rfl⟩
theorem law_makeFunc_u (hM:Mem base G0 own0 c) {f:FuncId} {first caps:Array Operand} (ho:o.op = .makeFunc (.func f) first caps):OpRes P base G0 own0 o a c .undef []:=by
 have hr:(execOp a.eval o).run P c.w = .ok (.value (.func (.func f) (first.map a.eval) (caps.map a.eval))) c.w:=by
  simp [execOp,ho,Instr.makeFunc,Sem.run_bind,Sem.run_pure,Result.andThen_ok]
 exact a1L hM hr trivial
theorem some_of_len (hM:Mem base G0 own0 c) {x:PV} (hs:isStrPV x = false) {n:Nat} (hl:lenPV c.H x = some n) {v:Value} (hv:VOk c x v):∃ ad cap,v = .slice ad n cap∧(n ≠ 0→ad ≠ none):=by
 cases x with
 | nils =>
  simp only [lenPV,Option.some.injEq] at hl
  subst hl
  obtain ⟨cs,h1,h2⟩:=hv
  simp only [a1H] at h1
  subst h1
  exact ⟨none,0,h2,fun h=>absurd rfl h⟩
 | val t y =>
  cases t with
  | sl t =>
   simp only [lenPV,Option.some.injEq] at hl
   subst hl
   obtain ⟨cs,⟨ad,cap,rfl,hcap,hlim,hr⟩,hv⟩:=hv
   refine ⟨ad,cap,hv,fun hne=>?_⟩
   rcases hr with hr | ⟨q,rfl,_⟩
   ·
    have hr:(show List t.D from y) = []:=hr
    exact absurd (by show List.length (show List t.D from y) = 0; rw [hr]; rfl) hne
   ·
    simp
  | str=>cases hs
  | _=>simp [lenPV] at hl
 | whole b =>
  obtain ⟨cs,⟨u,rfl,_,hw⟩,hv⟩:=hv
  have hB:=hM.blk b
  simp only [lenPV] at hl
  unfold WholeOk at hw
  unfold BlkOk at hB
  cases hb:a0K c.H b with
  | row t l =>
   simp only [hb,Option.some.injEq,a1I] at hl hw hB
   subst hl
   obtain ⟨hlim,e,xs,hown,_⟩:=hB
   have hv:v = u:=hv
   rcases own_cells hown with ⟨e1,e2,_⟩ | ⟨g,cap,cur,e1,e2,e3,_⟩
   ·
    exact ⟨none,0,by rw [hv,hw,e1,e2],fun h=>absurd e2 h⟩
   ·
    exact ⟨_,cap,by rw [hv,hw,e1],fun _=>by simp⟩
  | _=>simp [hb] at hl
 | row b lo m =>
  obtain ⟨cs,⟨u,rfl,_,hw⟩,hv⟩:=hv
  simp only [lenPV] at hl
  unfold RowOk at hw
  cases hb:a0K c.H b with
  | row t l =>
   simp only [hb,Option.some.injEq] at hl hw
   subst hl
   have hv:v = u:=hv
   obtain ⟨hle,⟨rfl,ad,cap,rfl⟩ | ⟨r,cap,cap',_,rfl,hn⟩⟩:=hw
   ·
    exact ⟨ad,cap,hv,fun h=>absurd rfl h⟩
   ·
    exact ⟨_,cap',hv,fun _=>by simp⟩
  | _=>simp [hb] at hl
 | aview b p lo m =>
  obtain ⟨cs,⟨u,rfl,_,hw⟩,hv⟩:=hv
  simp only [lenPV] at hl
  unfold AviewOk at hw
  cases hb:a0K c.H b with
  | box t l =>
   simp only [hb,Option.some.injEq] at hl hw
   subst hl
   have hv:v = u:=hv
   obtain ⟨r,off,k,t',_,_,hle,hlim,⟨rfl,ad,cap,rfl⟩ | ⟨cap,rfl,hn,_⟩⟩:=hw
   ·
    exact ⟨ad,cap,hv,fun h=>absurd rfl h⟩
   ·
    exact ⟨_,cap,hv,fun _=>by simp⟩
  | _=>simp [hb] at hl
 | _=>simp [lenPV] at hl
def nilBool (op:BinOp) (b:Bool):Bool:=match op with | .eql=>b | _=>!b
theorem run_equalIn_nil {id e:TypeId} (hu:P.underlying id = some (.slice e)) (d:Nat) (ad:Option Addr) (n cap:Nat) (w:World):(Op.equalIn (d + 1) id (.slice ad n cap) (.slice none 0 0)).run P w = .ok ad.isNone w:=by
 simp only [Op.equalIn,Sem.run_bind,run_underlying hu,Result.andThen_ok]
 cases ad <;> rfl
theorem run_nil_eq {op:BinOp} {id:TypeId} {e:TypeId} (hu:P.underlying id = some (.slice e)) {x y:Operand} {yt:TypeId} (ho:o.op = .binOp op id x y yt) (hop:op = .eql ∨ op = .neq) {ad:Option Addr} {n cap:Nat} (hx:a.eval x = .slice ad n cap) (hy:a.eval y = .slice none 0 0) (w:World) :
  (execOp a.eval o).run P w = .ok (.value (.bool (nilBool op ad.isNone))) w:=by
 have he:(Op.equal id (.slice ad n cap) (.slice none 0 0)).run P w = .ok ad.isNone w:=by
  exact run_equalIn_nil hu 9999 ad n cap w
 rcases hop with rfl | rfl
 ·
  have:(binOp .eql id (.slice ad n cap) (.slice none 0 0)).run P w = .ok (.bool ad.isNone) w:=by
   show (do pure (.bool (← Op.equal id (.slice ad n cap) (.slice none 0 0))):Sem Value).run P w = _
   simp only [Sem.run_bind,he,Result.andThen_ok,Sem.run_pure]
  simp only [execOp,ho,hx,hy,Sem.run_bind]
  simp [eqGuard,this,nilBool]
 ·
  have:(binOp .neq id (.slice ad n cap) (.slice none 0 0)).run P w = .ok (.bool (!ad.isNone)) w:=by
   show (do pure (.bool (!(← Op.equal id (.slice ad n cap) (.slice none 0 0)))):Sem Value).run P w = _
   simp only [Sem.run_bind,he,Result.andThen_ok,Sem.run_pure]
  simp only [execOp,ho,hx,hy,Sem.run_bind]
  simp [eqGuard,this,nilBool]
theorem nil_ok {R:Type} {T:R→Prop} {fail:R} (hf:¬ T fail) (hM:Mem base G0 own0 c) {op:BinOp} {x:PV} {K:PV→R} (h:T (nilCmp fail op c.H x K)) {v:Value} (hv:VOk c x v) :
  (op = .eql ∨ op = .neq)∧∃ ad n cap,v = .slice ad n cap∧T (K (.val .bool (nilBool op ad.isNone))):=by
 have hno:∀ {p:Prop},T fail→p:=fun h=>absurd h hf
 have brn_ok:∀ {b:Bool} {p q:R},T (brn b p q)→(b = true∧T p) ∨ (b = false∧T q):=by
  intro b p q h
  cases b
  ·
   exact .inr ⟨rfl,h⟩
  ·
   exact .inl ⟨rfl,h⟩
 have key:∀ (n:Nat) (r1 r2:Bool),isStrPV x = false→lenPV c.H x = some n→T (brn (emptyN n) (both fail (K (.val .bool r1)) (K (.val .bool r2))) (K (.val .bool r2)))→∃ ad n cap,v = .slice ad n cap∧T (K (.val .bool r2))∧(ad.isNone = true→T (K (.val .bool r1))):=by
  intro n r1 r2 hs hl h
  obtain ⟨ad,cap,hva,hne⟩:=some_of_len hM hs hl hv
  rcases brn_ok h with ⟨h0,h⟩ | ⟨h0,h⟩
  ·
   obtain ⟨k1,k2⟩:=both_ok hf h
   exact ⟨ad,n,cap,hva,k2,fun _=>k1⟩
  ·
   refine ⟨ad,n,cap,hva,h,fun hn=>?_⟩
   have:n ≠ 0:=fun e=>by subst e; cases h0
   have:=hne this
   cases ad with
   | none=>exact absurd rfl this
   | some _=>cases hn
 have nils:x = .nils→v = .slice none 0 0:=by
  rintro rfl
  obtain ⟨cs,h1,h2⟩:=hv
  simp only [a1H] at h1
  subst h1; exact h2
 unfold nilCmp at h
 cases op with
 | eql =>
  refine ⟨.inl rfl,?_⟩
  simp only at h
  split at h
  ·
   exact ⟨none,0,0,nils rfl,h⟩
  ·
   cases hs:isStrPV x with
   | true=>simp only [hs] at h; exact hno h
   | false =>
    simp only [hs] at h
    cases hl:lenPV c.H x with
    | some n =>
     simp only [hl] at h
     obtain ⟨ad,n,cap,e,k1,k2⟩:=key n true false hs hl h
     refine ⟨ad,n,cap,e,?_⟩
     cases ad with
     | none=>exact k2 rfl
     | some _=>exact k1
    | none=>simp only [hl] at h; exact hno h
 | neq =>
  refine ⟨.inr rfl,?_⟩
  simp only at h
  split at h
  ·
   exact ⟨none,0,0,nils rfl,h⟩
  ·
   cases hs:isStrPV x with
   | true=>simp only [hs] at h; exact hno h
   | false =>
    simp only [hs] at h
    cases hl:lenPV c.H x with
    | some n =>
     simp only [hl] at h
     obtain ⟨ad,n,cap,e,k1,k2⟩:=key n false true hs hl h
     refine ⟨ad,n,cap,e,?_⟩
     cases ad with
     | none=>exact k2 rfl
     | some _=>exact k1
    | none=>simp only [hl] at h; exact hno h
 | _=>exact hno h
theorem cut_row {b k:Nat} {v:Value} (h:VOk c (.cut b k) v):VOk c (.row b 0 k) v:=by
 obtain ⟨cs,⟨u,e,h1,hw⟩,h2⟩:=h
 subst e
 have h2:v = u:=h2
 subst h2
 refine ⟨[v],⟨v,rfl,h1,?_⟩,rfl⟩
 unfold CutOk at hw
 unfold RowOk
 cases hb:a0K c.H b with
 | row t l =>
  simp only [hb] at hw ⊢
  obtain ⟨hk,ad,hv,hr⟩:=hw
  refine ⟨by omega,?_⟩
  rcases hr with rfl | ⟨r,cap,e1,rfl⟩
  ·
   exact .inl ⟨rfl,ad,0,hv⟩
  ·
   exact .inr ⟨r,cap,k,e1,by rw [hv,Nat.zero_mul],Nat.le_refl _⟩
 | dead=>trivial
 | unborn=>simp [hb] at hw
 | box t l=>simp [hb] at hw
theorem law_slice_cut (hM:Mem base G0 own0 c) {id:TypeId} {x hi mx:Operand} (ho:o.op = .slice id x none (some hi) (some mx)) {t:Ty} (ht:TOk P (.sl t) id) {b:Nat} {l:List t.D} (hbl:a0K c.H b = .row t l) {k k':IntKind} {i:I k} {j:I k'}
  (h1:inB' i l.length = true) (h2:i.val = j.val) (hx:VOk c (.whole b) (a.eval x)) (hh:VOk c (.val (.int k) i) (a.eval hi)) (hm:VOk c (.val (.int k') j) (a.eval mx)):OpRes P base G0 own0 o a c (.cut b i.nat) []:=by
 obtain ⟨cs,⟨u,rfl,_,hw⟩,hv⟩:=hx
 have hB:=hM.blk b
 unfold WholeOk at hw
 unfold BlkOk at hB
 simp only [hbl] at hw hB
 obtain ⟨hlim,e,xs,hown,_⟩:=hB
 have hv:a.eval x = u:=hv
 have hh:=v_int hh
 have hm:=v_int hm
 obtain ⟨q1,q2,q3,q4⟩:=inB'_iff h1
 have hj:inB' j l.length = true:=by simp only [inB',Bool.and_eq_true,decide_eq_true_eq]; omega
 have hji:inB' i j.nat = true:=by have:=inB'_iff hj; simp only [inB',Bool.and_eq_true,decide_eq_true_eq]; omega
 have hjn:j.nat = i.nat:=by have:=inB'_iff hj; omega
 obtain ⟨_,e',hu,he⟩:=ht
 have run:∀ (ad:Option Addr) (cap:Nat),l.length ≤ cap→(Instr.sliceAt id (.slice ad l.length cap) none (some (.int k i.val)) (some (.int k' j.val))).run P c.w = .ok (.slice (if i.nat = 0 then ad else ad.map (·.add 0)) i.nat i.nat) c.w:=by
  intro ad cap hcap
  have hb:(Instr.sliceBounds true l.length cap none (some (.int k i.val)) (some (.int k' j.val))).run P c.w = .ok (0,i.nat,i.nat) c.w:=by
   have r1:=run_bound (P:=P) hj hcap .slice3Acap c.w
   have r2:=run_bound (P:=P) hji (Nat.le_refl _) .slice3B c.w
   rw [hjn] at r2
   simp only [Instr.sliceBounds,Sem.run_bind,if_true,r1,Result.andThen_ok,r2,Sem.run_pure,hjn]
  unfold Instr.sliceAt
  rw [Sem.run_bind,run_underlying hu,Result.andThen_ok]
  unfold Instr.slice
  simp only [Sem.run_bind,run_underlying hu,Result.andThen_ok,hb,he.run_size,Sem.run_pure,Nat.sub_zero,Nat.zero_mul]
 have fin:∀ (ad:Option Addr) (cap:Nat),a.eval x = .slice ad l.length cap→l.length ≤ cap→(i.nat = 0 ∨ ∃ r,ad = some ⟨r,0,none⟩∧c.ρ b = .slice (some ⟨r,0,none⟩) l.length cap)→OpRes P base G0 own0 o a c (.cut b i.nat) []:=by
  intro ad cap hva hcap hr
  refine a1L hM (v:=.slice (if i.nat = 0 then ad else ad.map (·.add 0)) i.nat i.nat) ?_ ⟨[_],⟨_,rfl,rfl,?_⟩,rfl⟩
  ·
   simp only [execOp,ho,hva,Option.map_none,Option.map_some,hh,hm,Sem.run_bind,run ad cap hcap,Result.andThen_ok,Sem.run_pure]
  ·
   unfold CutOk
   simp only [hbl]
   refine ⟨q3,_,rfl,?_⟩
   rcases hr with h0 | ⟨r,rfl,hρ⟩
   ·
    exact .inl h0
   ·
    by_cases h0:i.nat = 0
    ·
     exact .inl h0
    ·
     exact .inr ⟨r,cap,hρ,by rw [if_neg h0]; simp [add_lit]⟩
 rcases own_cells hown with ⟨e1,e2,_⟩ | ⟨g,cap,cur,e1,e2,e3,_⟩
 ·
  exact fin none 0 (by rw [hv,hw,e1,e2]) (by omega) (.inl (by omega))
 ·
  exact fin _ cap (by rw [hv,hw,e1]) e3 (.inr ⟨g,rfl,e1⟩)
theorem law_slice_clip (hM:Mem base G0 own0 c) {id:TypeId} {x hi mx:Operand} (ho:o.op = .slice id x none (some hi) (some mx)) {t:Ty} (ht:TOk P (.sl t) id) {y:List t.D} {k k':IntKind} {i:I k} {j:I k'}
  (h1:inB' i y.length = true) (h2:i.val = j.val) (hx:VOk c (.val (.sl t) y) (a.eval x)) (hh:VOk c (.val (.int k) i) (a.eval hi)) (hm:VOk c (.val (.int k') j) (a.eval mx)):OpRes P base G0 own0 o a c (.val (.sl t) (subL y 0 i.nat)) []:=by
 obtain ⟨cs,⟨ad,cap,rfl,hcap,hlim,hr⟩,hv⟩:=hx
 have hcap:y.length ≤ cap:=hcap
 have hlim:y.length ≤ LIM:=hlim
 have hv:a.eval x = .slice ad y.length cap:=hv
 have hh:=v_int hh
 have hm:=v_int hm
 obtain ⟨q1,q2,q3,q4⟩:=inB'_iff h1
 have hj:inB' j y.length = true:=by simp only [inB',Bool.and_eq_true,decide_eq_true_eq]; omega
 have hji:inB' i j.nat = true:=by have:=inB'_iff hj; simp only [inB',Bool.and_eq_true,decide_eq_true_eq]; omega
 have hjn:j.nat = i.nat:=by have:=inB'_iff hj; omega
 obtain ⟨_,e',hu,he⟩:=ht
 have run:(Instr.sliceAt id (.slice ad y.length cap) none (some (.int k i.val)) (some (.int k' j.val))).run P c.w = .ok (.slice (if i.nat = 0 then ad else ad.map (·.add 0)) i.nat i.nat) c.w:=by
  have hb:(Instr.sliceBounds true y.length cap none (some (.int k i.val)) (some (.int k' j.val))).run P c.w = .ok (0,i.nat,i.nat) c.w:=by
   have r1:=run_bound (P:=P) hj hcap .slice3Acap c.w
   have r2:=run_bound (P:=P) hji (Nat.le_refl _) .slice3B c.w
   rw [hjn] at r2
   simp only [Instr.sliceBounds,Sem.run_bind,if_true,r1,Result.andThen_ok,r2,Sem.run_pure,hjn]
  unfold Instr.sliceAt
  rw [Sem.run_bind,run_underlying hu,Result.andThen_ok]
  unfold Instr.slice
  simp only [Sem.run_bind,run_underlying hu,Result.andThen_ok,hb,he.run_size,Sem.run_pure,Nat.sub_zero,Nat.zero_mul]
 have hlen:(subL y 0 i.nat).length = i.nat:=by unfold subL; rw [List.drop_zero,List.length_take]; omega
 refine a1L hM (v:=.slice (if i.nat = 0 then ad else ad.map (·.add 0)) i.nat i.nat) ?_ ⟨[_],⟨_,i.nat,by show _ = [Value.slice _ (subL y 0 i.nat).length _]; rw [hlen],by show (subL y 0 i.nat).length ≤ _; omega,by show (subL y 0 i.nat).length ≤ _; omega,?_⟩,rfl⟩
 ·
  simp only [execOp,ho,hv,Option.map_none,Option.map_some,hh,hm,Sem.run_bind,run,Result.andThen_ok,Sem.run_pure]
 ·
  by_cases h0:i.nat = 0
  ·
   left; exact List.eq_nil_of_length_eq_zero (by rw [hlen]; exact h0)
  ·
   right
   rcases hr with hr | ⟨⟨r,q,spot⟩,rfl,hsp,hG,hrow⟩
   ·
    have hr:y = []:=hr
    subst hr; simp at q3; omega
   ·
    simp only at hsp hG hrow
    subst hsp
    refine ⟨⟨r,q,none⟩,by rw [if_neg h0]; simp [add_lit],rfl,hG,?_⟩
    have:=rowAt_sub (lo:=0) (n:=i.nat) hrow
    rw [Nat.zero_mul,Nat.add_zero] at this; exact this
end
end Sym

/- Laws: slices of nothing told as rows of the call's own; append to a row cut short; methods of interfaces. -/
namespace Sym
open Go
theorem putBlks_other:∀ (δ:List (Nat × Blk)) (H:List Blk) (j:Nat),(∀ p ∈ δ,p.1 ≠ j)→a0K (putBlks H δ) j = a0K H j
 | [],_,_,_=>rfl
 | (i,b) :: δ,H,j,h=>by
  simp only [putBlks]
  rw [putBlks_other δ _ j fun p hp=>h p (by simp [hp]),blkAt_put,if_neg]
  intro e
  exact h (i,b) (by simp) e.symm
theorem own_keys:∀ (t:Ty) (v:PV) (nb:Nat),∀ p ∈ (ownNils t v nb).2,nb ≤ p.1∧p.1 < nb + (ownNils t v nb).2.length:=by
 intro t
 induction t with
 | cons a b iha ihb =>
  intro v nb p hp
  cases v with
  | pair x y =>
   simp only [ownNils,List.mem_append,List.length_append] at hp ⊢
   rcases hp with hp | hp
   ·
    have:=iha x nb p hp; omega
   ·
    have:=ihb y _ p hp; omega
  | _=>simp [ownNils] at hp
 | sl t _ =>
  intro v nb p hp
  cases v with
  | nils=>simp only [ownNils,List.mem_singleton] at hp; subst hp; simp [ownNils]
  | _=>simp [ownNils] at hp
 | _=>intro v nb p hp; cases v <;> simp [ownNils] at hp
theorem own_fits:∀ (t:Ty) (v:PV) (nb:Nat),fits v t = true→fits (ownNils t v nb).1 t = true:=by
 intro t
 induction t with
 | cons a b iha ihb =>
  intro v nb h
  cases v with
  | pair x y =>
   simp only [fits,Bool.and_eq_true] at h
   simp only [ownNils,fits,Bool.and_eq_true]
   exact ⟨iha x _ h.1,ihb y _ h.2⟩
  | _=>exact h
 | sl t _ =>
  intro v nb h
  cases v with
  | nils=>rfl
  | _=>exact h
 | _=>intro v nb h; cases v <;> exact h
theorem own_plain:∀ (t:Ty) (v:PV) (nb:Nat),isAggPV (ownNils t v nb).1 = isAggPV v:=by
 intro t v nb
 cases t <;> cases v <;> rfl
section
variable {P:Program} {base:World} {G0 own0:Nat→Prop} {o:Oper} {a:Act}
theorem own_nils:∀ (t:Ty) (v:PV) (nb:Nat) (c:Cx) (cs:List Value),Mem base G0 own0 c→(∀ p ∈ (ownNils t v nb).2,a0K c.H p.1 = .unborn)→a1H c v cs →
  ∃ c',c'.w = c.w∧c'.H = putBlks c.H (ownNils t v nb).2∧Ext c c'∧Mem base G0 own0 c'∧a1H c' (ownNils t v nb).1 cs:=by
 intro t
 have triv:∀ (v:PV) (c:Cx) (cs:List Value),Mem base G0 own0 c→a1H c v cs→∃ c',c'.w = c.w∧c'.H = putBlks c.H []∧Ext c c'∧Mem base G0 own0 c'∧a1H c' v cs:=fun v c cs hM h=>⟨c,rfl,rfl,Ext.refl c,hM,h⟩
 induction t with
 | cons x y ihx ihy =>
  intro v nb c cs hM hn hc
  cases v with
  | pair p q =>
   obtain ⟨c1,c2,e,h1,h2⟩:=hc
   subst e
   simp only [ownNils] at hn ⊢
   obtain ⟨d1,w1,H1,E1,M1,k1⟩:=ihx p nb c c1 hM (fun r hr=>hn r (by simp [hr])) h1
   obtain ⟨d2,w2,H2,E2,M2,k2⟩:=ihy q (nb + (ownNils x p nb).2.length) d1 c2 M1 (fun r hr=>by
    have hk:=own_keys y q _ r hr
    rw [H1,putBlks_other _ _ _ fun p' hp'=>?_]
    ·
     exact hn r (by simp [hr])
    ·
     have:=own_keys x p nb p' hp'; omega) (cells_ext E1 _ _ h2)
   exact ⟨d2,w2.trans w1,by rw [H2,H1,putBlks_app],E1.trans E2,M2,c1,c2,rfl,cells_ext E2 _ _ k1,k2⟩
  | _=>exact triv _ c cs hM hc
 | sl t _ =>
  intro v nb c cs hM hn hc
  cases v with
  | nils =>
   have hc:cs = [.slice none 0 0]:=hc
   subst hc
   obtain ⟨c',h1,h2,h3,h4,h5⟩:=mem_row hM (hn (nb,.row t []) (List.mem_singleton.2 rfl)) (w':=c.w) (hd:=.slice none 0 0) (t:=t) (l:=[]) (e:=0) (xs:=[]) none ⟨rfl,rfl,rfl,Nat.le_refl _,fun _ _ _=>rfl⟩
    ⟨by simp,.inl ⟨rfl,rfl⟩⟩ rfl (Nat.zero_le _) none (fun i h=>by cases h) (fun r h=>by cases h) (fun r h=>by cases h)
   refine ⟨c',h1,h2,h3,h4,?_⟩
   obtain ⟨cs',k1,k2⟩:=h5
   obtain ⟨u,e,k3⟩:=k1
   subst e
   have k2:(Value.slice none 0 0) = u:=k2
   subst k2
   exact ⟨_,rfl,k3⟩
  | _=>exact triv _ c cs hM hc
 | _=>intro v nb c cs hM hn hc; cases v <;> exact triv _ c cs hM hc
variable {c:Cx}
theorem opres_own (t:Ty) {pv:PV} {nb:Nat} (hp:plainPV pv = true) (hn:∀ p ∈ (ownNils t pv nb).2,a0K c.H p.1 = .unborn) (h:OpRes P base G0 own0 o a c pv []):OpRes P base G0 own0 o a c (ownNils t pv nb).1 (ownNils t pv nb).2:=by
 intro K Q hK
 refine h K Q fun v c' hE hM' hH hv=>?_
 obtain ⟨cs,k1,k2⟩:=plain_cells' hv hp
 obtain ⟨c2,g1,g2,g3,g4,g5⟩:=own_nils t pv nb c' cs hM' (by rw [show c'.H = c.H from hH]; exact hn) k1
 have:=hK v c2 (hE.trans g3) g4 (by rw [g2,hH]; rfl) (by rw [k2,← own_plain t pv nb]; exact cells_v g5)
 rw [g1] at this
 exact this
theorem law_alloc_own (hM:Mem base G0 own0 c) {id:TypeId} (ho:o.op = .alloc id) {t:Ty} (ht:TI P id t) (hz:t.zOk = true) (hq:t ≠ .opq) {nb:Nat} (hn:∀ p ∈ (ownNils t (zeroPV t) nb).2,a0K c.H p.1 = .unborn) (hn2:a0K c.H (nb + (ownNils t (zeroPV t) nb).2.length) = .unborn) :
  OpRes P base G0 own0 o a c (.ptr (nb + (ownNils t (zeroPV t) nb).2.length) []) ((ownNils t (zeroPV t) nb).2 ++ [(nb + (ownNils t (zeroPV t) nb).2.length,.box t (ownNils t (zeroPV t) nb).1)]):=by
 obtain ⟨c1,g1,g2,g3,g4,g5⟩:=own_nils t (zeroPV t) nb c _ hM hn (zeroPV_ok (c:=c) t hz).1
 have hn3:a0K c1.H (nb + (ownNils t (zeroPV t) nb).2.length) = .unborn:=by
  rw [g2,putBlks_other _ _ _ fun p hp=>?_]
  ·
   exact hn2
  ·
   have:=own_keys _ _ _ p hp; omega
 obtain ⟨c',h1,h2,h3,h4,h5⟩:=mem_box g4 hn3 id g5 (own_fits _ _ _ (zeroPV_ok (c:=c) t hz).2)
 rw [g1] at h1 h5
 refine opres_value (c':=c') ?_ (g3.trans h3) h4 (by rw [h2,g2,putBlks_app]) h5
 rw [h1]
 have:=cells_mkV (zCells_len t) (zCells_one t)
 have hr:=ht.run_zero hq c.w
 simp [execOp,ho,Instr.alloc,hr,newVar,newRow,mkZ,this]
theorem law_slice_own (hM:Mem base G0 own0 c) {id:TypeId} {x:Operand} {hi:Option Operand} (ho:o.op = .slice id x none hi none) {t:Ty} (ht:TOk P (.sl t) id) {bs:List PV} (ha:All2 (VOk c) bs (([]:List Value) ++ hi.toList.map a.eval))
  {b:Nat} {l:List t.D} (hbl:a0K c.H b = .row t l) {n:Nat} {b1 b2:Bool × Nat} (hb:slcBounds (lenPV c.H (.whole b)) false hi.isSome bs = some (n,b1,b2)) (h1:b1.1 = true) (h2:b2.1 = true) (hx:VOk c (.whole b) (a.eval x)) {nb:Nat} (hn:a0K c.H nb = .unborn) :
  OpRes P base G0 own0 o a c (.whole nb) [(b,.dead),(nb,.row t (subL l 0 b2.2))]:=by
 obtain ⟨cs,⟨u,rfl,_,hw⟩,hv⟩:=hx
 have hB:=hM.blk b
 unfold WholeOk at hw
 unfold BlkOk at hB
 simp only [hbl] at hw hB
 obtain ⟨hlim,e,xs,hown,hxs⟩:=hB
 have hl0:=EncL_len (fun x cs=>Enc_len t x cs) l xs hxs
 have hbn:=(run_bounds (P:=P) none hi bs ha hb h1 h2 true n (Nat.le_refl _) c.w).2.2.2
 simp only [lenPV,hbl,Option.some.injEq,a1I] at hbn
 have hv:a.eval x = u:=hv
 have hb10:b1.2 = 0:=by
  unfold slcBounds at hb
  split at hb
  ·
   cases hb
  ·
   cases hhi:hi.isSome <;> rw [hhi] at hb <;> (split at hb <;> first | (simp only [Option.some.injEq,Prod.mk.injEq] at hb; obtain ⟨_,rfl,_⟩:=hb; rfl) | contradiction | (exact absurd hb (by simp)))
 have hbnb:b ≠ nb:=by rintro rfl; rw [hbl] at hn; cases hn
 have hsub:subL l 0 b2.2 = l.take b2.2:=by simp [subL]
 have fin:∀ (ad:Option Addr) (cap:Nat),a.eval x = .slice ad l.length cap→c.ρ b = .slice ad l.length cap→l.length ≤ cap→((ad = none∧cap = 0) ∨ ∃ g cur,ad = some ⟨g,0,none⟩∧c.w.heap[g]? = some (.cells cur e (0,0))∧cap ≤ maxLen∧cur.size = cap * t.sz∧cur.toList.take (l.length * t.sz) = xs)→OpRes P base G0 own0 o a c (.whole nb) [(b,.dead),(nb,.row t (subL l 0 b2.2))]:=by
  intro ad cap hva hρ hcap hr
  obtain ⟨hr1,hle,hle',_⟩:=run_bounds (P:=P) none hi bs ha hb h1 h2 true cap (by omega) c.w
  rw [hb10] at hr1
  have hrun:=run_sliceAt_sl ht ad l.length cap 0 b2.2 none (hi.map a.eval) c.w (by rw [hbn]; exact hr1)
  have hval:(Value.slice (if cap = 0 then ad else ad.map (·.add (0 * t.sz))) (b2.2 - 0) (cap - 0)) = .slice ad b2.2 cap:=by
   rcases hr with ⟨rfl,rfl⟩ | ⟨g,cur,rfl,_⟩
   ·
    rfl
   ·
    by_cases h0:cap = 0
    ·
     rw [if_pos h0]; rfl
    ·
     rw [if_neg h0,Nat.zero_mul]; simp [add_lit]
  rw [hval] at hrun
  have hlen:(l.take b2.2).length = b2.2:=by rw [List.length_take]; omega
  have hxt:EncL (Enc c.w c.G t) (l.take b2.2) (xs.take (b2.2 * t.sz)):=by
   have:∀ (n:Nat) (l:List t.D) (xs:List Value),EncL (Enc c.w c.G t) l xs→EncL (Enc c.w c.G t) (l.take n) (xs.take (n * t.sz)):=by
    intro n
    induction n with
    | zero=>intro l xs _; simp [EncL]
    | succ n ih =>
     intro l xs h
     cases l with
     | nil=>simp only [EncL] at h; subst h; simp [EncL]
     | cons y l =>
      obtain ⟨c1,c2,rfl,k1,k2⟩:=h
      have hs:=Enc_len _ _ _ k1
      refine ⟨c1,c2.take (n * t.sz),?_,k1,ih l c2 k2⟩
      rw [Nat.succ_mul,List.take_append,List.take_of_length_le (by omega),show n * t.sz + t.sz - c1.length = n * t.sz by omega]
   exact this _ l xs hxs
  have hown':c.w.ownsRow 0 e t.sz (.slice ad b2.2 cap) (l.take b2.2).length (xs.take (b2.2 * t.sz)):=by
   rw [hlen]
   refine ⟨by rw [List.length_take,hl0]; exact Nat.min_eq_left (Nat.mul_le_mul_right _ (by omega)),?_⟩
   rcases hr with ⟨rfl,rfl⟩ | ⟨g,cur,rfl,k1,k2,k3,k4⟩
   ·
    left; have:b2.2 = 0:=by omega
    rw [this]; exact ⟨rfl,rfl⟩
   ·
    right
    refine ⟨g,cap,cur,rfl,Nat.zero_le _,k1,by omega,k2,k3,?_⟩
    rw [← k4,List.take_take,Nat.min_eq_left (Nat.mul_le_mul_right _ (by omega))]
  obtain ⟨c',q1,q2,q3,q4,q5⟩:=mem_row hM hn (w':=c.w) (hd:=.slice ad b2.2 cap) (t:=t) (l:=l.take b2.2) none ⟨rfl,rfl,rfl,Nat.le_refl _,fun _ _ _=>rfl⟩ hown' hxt (by omega) (some b)
   (fun i h=>by cases h; exact ⟨by rw [hbl]; rfl,hbnb⟩) (fun r h=>by cases h) (fun r h=>.inr ⟨b,rfl,by
    rw [hρ]
    rcases hr with ⟨rfl,rfl⟩ | ⟨g,cur,rfl,_⟩
    ·
     cases h
    ·
     exact h⟩)
  rw [hsub]
  refine opres_value (c':=c') ?_ q3 q4 q2 q5
  rw [q1,exec_slice ho,hva]
  simp only [Sem.run_bind]
  rw [show (none:Option Operand).map a.eval = none from rfl,hrun]
  rfl
 rcases own_cells hown with ⟨e1,e2,_⟩ | ⟨g,cap,cur,e1,e2,e3,e4,e5,e6,_⟩
 ·
  exact fin none 0 (by rw [hv,hw,e1,e2]) (by rw [e1,e2]) (by omega) (.inl ⟨rfl,rfl⟩)
 ·
  exact fin _ cap (by rw [hv,hw,e1]) e1 e3 (.inr ⟨g,cur,rfl,e2,e4,e5,e6⟩)
theorem law_append_cut0 (hM:Mem base G0 own0 c) {k:Call} {x y:Operand} (ho:o.op = .call k) (hk:k.callee = .builtin .append) (hargs:k.args = #[x,y]) {id:TypeId} (hat:k.argTypes = #[id,id]) {t:Ty} (ht:TI P id (.sl t))
  {py:PV} {ys:List t.D} {lent:List Nat} {b n:Nat} {l:List t.D} (hb:a0K c.H b = .row t l) (hx:VOk c (.cut b n) (a.eval x)) (hy:VOk c py (a.eval y)) (hv:toVal c.H (.sl t) py = some (ys,lent)) (h0:ys.length = 0) :
  OpRes P base G0 own0 o a c (.row b 0 n) []:=by
 obtain ⟨e,hu,he,i,hi,hby,hz⟩:=ht.elem t rfl
 obtain ⟨us,_,hvu,hen⟩:=toVal_v hM hy hv
 obtain ⟨ad,cap,news,rfl,hnl,hne1,hfc⟩:=firstCells_enc (P:=P) hen
 have hyv:a.eval y = .slice ad ys.length cap:=hvu
 have hr:=cut_row hx
 obtain ⟨cs,⟨v,rfl,_,hw⟩,hxv⟩:=hx
 have hB:=hM.blk b
 unfold BlkOk at hB
 unfold CutOk at hw
 simp only [hb] at hw hB
 obtain ⟨_,e0,xs,hown0,_⟩:=hB
 obtain ⟨hnl2,ad2,hv3,had⟩:=hw
 have hxv:a.eval x = .slice ad2 n n:=by rw [← hv3]; exact hxv
 have hs:i.size = t.sz:=by have:=he.size; simp [Program.cellsOf,hi] at this; exact this
 have hnews:news = []:=List.eq_nil_of_length_eq_zero (by rw [hnl,h0]; simp)
 subst hnews
 have hf:=hfc c.w (fun _=>rfl)
 rw [h0] at hf hyv
 refine a1L hM (v:=a.eval x) ?_ hr
 rw [exec_append ho hk hargs,hat,hxv,hyv]
 cases ad2 with
 | none=>simp [Builtin.append_,run_underlying hu,Go.sizeOf,typeInfo,hi,hs,lenOf_slice,hf]
 | some q=>simp [Builtin.append_,run_underlying hu,Go.sizeOf,typeInfo,hi,hs,lenOf_slice,hf,storeCells]
theorem law_append_cut (hM:Mem base G0 own0 c) {k:Call} {x y:Operand} (ho:o.op = .call k) (hk:k.callee = .builtin .append) (hargs:k.args = #[x,y]) {id:TypeId} (hat:k.argTypes = #[id,id]) {t:Ty} (ht:TI P id (.sl t)) (hq:t.noOpq = true) (hsz:1 ≤ t.sz)
  {py:PV} {ys:List t.D} {lent:List Nat} {b n:Nat} {l:List t.D} (hb:a0K c.H b = .row t l) (hnb:b ∉ lent) (hx:VOk c (.cut b n) (a.eval x)) (hy:VOk c py (a.eval y)) (hv:toVal c.H (.sl t) py = some (ys,lent)) (hne:ys.length ≠ 0) (hfl:a1Z (l.take n ++ ys).length = true) {nb:Nat} (hn:a0K c.H nb = .unborn) :
  OpRes P base G0 own0 o a c (.whole nb) (kill (lentE t lent) ++ [(nb,.row t (l.take n ++ ys))]):=by
 obtain ⟨e,hu,he,i,hi,hby,hz⟩:=ht.elem t rfl
 have hz:=hz.resolve_right (by rintro rfl; cases hq)
 obtain ⟨us,_,hvu,hen⟩:=toVal_v hM hy hv
 obtain ⟨ad,cap,news,rfl,hnl,hne1,hfc⟩:=firstCells_enc (P:=P) hen
 have hyv:a.eval y = .slice ad ys.length cap:=hvu
 obtain ⟨c1,h1,h2,h3,h4,h5,h6,h7⟩:=lendE hM t lent (toVal_live _ _ _ _ _ hv)
 have hx1:=v_ext h4 hx
 have hb1:=(h6 b hnb).trans hb
 obtain ⟨cs,⟨v,rfl,_,hw⟩,hxv2⟩:=hx1
 unfold CutOk at hw
 simp only [hb1] at hw
 obtain ⟨hnl2,ad2,hv3,had⟩:=hw
 have hxv:a.eval x = .slice ad2 n n:=by rw [← hv3]; exact hxv2
 have hB:=h5.blk b
 unfold BlkOk at hB
 simp only [hb1] at hB
 obtain ⟨_,e0,xs,hown0,hxs⟩:=hB
 obtain ⟨olds,hol0⟩:∃ olds,olds = xs.take (n * t.sz):=⟨_,rfl⟩
 have hol:olds.length = n * t.sz:=by rw [hol0,List.length_take,hown0.1]; exact Nat.min_eq_left (Nat.mul_le_mul_right _ (by omega))
 have hofc:(Builtin.firstCells t.sz n (.slice ad2 n n)).run P c1.w.drew = .ok olds.toArray c1.w.drew:=by
  rcases Nat.eq_zero_or_pos n with h0 | h0
  ·
   subst h0
   have:olds = []:=List.eq_nil_of_length_eq_zero (by rw [hol]; simp)
   subst this
   cases ad2 with
   | none=>simp [Builtin.firstCells]
   | some q=>simp [Builtin.firstCells,loadCells,loadCellsFrom]
  ·
   rcases had with h | ⟨r,cap0,e1,e2⟩
   ·
    omega
   ·
    subst e2
    rcases own_cells hown0 with ⟨e3,_⟩ | ⟨g,cap1,cur,e3,e4,e5,e6,e7,e8,e9⟩
    ·
     rw [e3] at e1; cases e1
    ·
     rw [e3] at e1
     injection e1 with e1 _ _
     injection e1 with e1
     injection e1 with e1 _ _
     subst e1
     refine run_firstCells_some (P:=P) c1.w.drew t.sz n ⟨g,0,none⟩ n n olds hol fun j v hj=>?_
     rw [hol0,List.getElem?_take] at hj
     split at hj
     ·
      rw [add_lit]
      have:=e9 j v hj
      rw [World.cell?_drew]
      simp only [World.cell?,e4,Option.isSome_none,Bool.false_eq_true,if_false]
      exact this
     ·
      cases hj
 have hxt:EncL (Enc c1.w c1.G t) (l.take n) olds:=by
  have:∀ (n:Nat) (l:List t.D) (xs:List Value),EncL (Enc c1.w c1.G t) l xs→EncL (Enc c1.w c1.G t) (l.take n) (xs.take (n * t.sz)):=by
   intro n
   induction n with
   | zero=>intro l xs _; simp [EncL]
   | succ n ih =>
    intro l xs h
    cases l with
    | nil=>simp only [EncL] at h; subst h; simp [EncL]
    | cons y l =>
     obtain ⟨c1',c2',rfl,k1,k2⟩:=h
     have hs:=Enc_len _ _ _ k1
     refine ⟨c1',c2'.take (n * t.sz),?_,k1,ih l c2' k2⟩
     rw [Nat.succ_mul,List.take_append,List.take_of_length_le (by omega),show n * t.sz + t.sz - c1'.length = n * t.sz by omega]
  rw [hol0]
  exact this _ l xs hxs
 have hlim:n + ys.length ≤ 1073741824:=by have:=mx_fits hfl (Nat.le_refl _); rw [List.length_append,List.length_take,Nat.min_eq_left hnl2] at this; exact this
 have hs:i.size = t.sz:=by have:=he.size; simp [Program.cellsOf,hi] at this; exact this
 have hzc:(mkZ t).cells = (zCells t).toArray:=cells_mkV (zCells_len t) (zCells_one t)
 have hbytes:(n + ys.length) * i.bytes ≤ 140737488355328:=Nat.le_trans (Nat.mul_le_mul hlim hby) (by decide)
 have hrun:=run_append_grow' (P:=P) c1.w id o.type e i (mkZ t) hu hi hz ad2 n n olds (by rw [hs]; exact hofc) (.slice ad ys.length cap) ys.length rfl news (by rw [hs]; exact hfc c1.w.drew (fun a=>by rw [h1]; rfl)) (by omega) (by omega) (growslice_fits (by omega) hbytes)
 have hge:=grownCap_ge c1.w (n + ys.length) n e
 have hcm:grownCap c1.w (n + ys.length) n e ≤ maxLen:=grownCap_le_maxLen c1.w (n + ys.length) n e (by simp only [maxLen]; omega)
 have hnl':nb ∉ lent:=fun h=>by have:=toVal_live _ _ _ _ _ hv nb h; rw [hn] at this; cases this
 have hlen2:(olds ++ news).length = (n + ys.length) * t.sz:=by rw [List.length_append,hol,hnl,Nat.add_mul]
 obtain ⟨c2,k1,k2,k3,k4,k5⟩:=mem_row h5 ((h6 nb hnl').trans hn) (w':=c1.w.drew.alloc (.cells (olds ++ news ++ (Builtin.zeroCells (mkZ t).cells (grownCap c1.w (n + ys.length) n e - (n + ys.length))).toList).toArray e)) (t:=t) (l:=l.take n ++ ys) (e:=e) (xs:=olds ++ news) none ⟨rfl,rfl,rfl,by simp,fun k hk _=>heap_old c1.w.drew _ hk⟩
  (hd:=.slice (some ⟨c1.w.heap.size,0,none⟩) (n + ys.length) (grownCap c1.w (n + ys.length) n e))
  (by
   rw [List.length_append,List.length_take,Nat.min_eq_left hnl2]
   refine ⟨hlen2,.inr ⟨c1.w.heap.size,_,_,rfl,Nat.zero_le _,heap_new c1.w.drew _,hge,hcm,?_,?_⟩⟩
   ·
    simp only [List.size_toArray,List.length_append,Array.length_toList,size_zeroCells,hzc,zCells_len]
    rw [hol,hnl,← Nat.add_mul,← Nat.add_mul]
    congr 1
    omega
   ·
    simp only [List.append_assoc]
    rw [← List.append_assoc,← hlen2]
    exact List.take_left)
  (EncL_app _ _ _ _ hxt (EncL_mono (fun x cs=>h7 x cs) ys news hne1)) (by rw [List.length_append,List.length_take]; simp only [LIM]; omega) none (fun i h=>by cases h) (fun r h=>by cases h)
  (fun r h=>by simp only [blkOf,Option.some.injEq] at h; left; omega)
 refine opres_value (c':=c2) ?_ (h4.trans k3) k4 (by rw [k2,h2,← putBlks_app]; rfl) k5
 rw [k1,exec_append ho hk hargs,hat,hxv,hyv,← h1]
 simp only [Sem.run_bind,hrun,Result.andThen_ok,Sem.run_pure]
end
end Sym

/- Calls of closures and of interfaces' methods: which function, with which arguments. -/
namespace Sym
open Go
def MethOk (P:Program) (t:TypeId) (name:String) (f:FuncId) (d:Option Nat):Prop :=
 ∃ i m e,P.info? t = some i∧i.methods.find? (fun x=>x.name == name) = some m∧m.path = #[]∧P.underlying t = some (.pointer e) ∧
  match d with
  | none=>m.func = some (f,true)
  | some e'=>m.func = some (f,false)∧e' = e
def methB (P:Program) (t:TypeId) (name:String) (f:FuncId) (d:Option Nat):Bool :=
 match P.info? t,P.underlying t with
 | some i,some (.pointer e)=>match i.methods.find? (fun x=>x.name == name) with
  | some m=>match m.path.toList,m.func,d with
   | [],some (g,true),none=>Nat.beq g f
   | [],some (g,false),some e'=>Nat.beq g f && Nat.beq e' e
   | _,_,_=>false
  | none=>false
 | _,_=>false
theorem meth_ok {P:Program} {t:TypeId} {name:String} {f:FuncId} {d:Option Nat} (h:methB P t name f d = true):MethOk P t name f d:=by
 unfold methB at h
 split at h
 ·
  rename_i i e hi hu
  split at h
  ·
   rename_i m hm
   split at h
   ·
    rename_i g hp hf
    have h:=Nat.eq_of_beq_eq_true h
    subst h
    exact ⟨i,m,e,hi,hm,by apply Array.ext'; simpa using hp,hu,hf⟩
   ·
    rename_i g e' hp hf
    simp only [Bool.and_eq_true] at h
    have h1:=Nat.eq_of_beq_eq_true h.1
    have h2:=Nat.eq_of_beq_eq_true h.2
    subst h1
    exact ⟨i,m,e,hi,hm,by apply Array.ext'; simpa using hp,hu,hf,h2⟩
   ·
    cases h
  ·
   cases h
 ·
  cases h
section
variable {P:Program} {base:World} {G0 own0:Nat→Prop} {o:Oper} {a:Act} {c:Cx}
theorem fuel_succ (P:Program):∃ n,P.types.size + Made.depth = n + 1:=⟨P.types.size + 99,rfl⟩
theorem run_info {t:TypeId} {i:TypeInfo} (h:P.info? t = some i) (w:World):(typeInfo t).run P w = .ok i w:=by
 simp [typeInfo,h]
theorem run_method_ptr {t:TypeId} {name:String} {f:FuncId} (h:MethOk P t name f none) (v:Value) (w:World):(method (P.types.size + Made.depth) t v name).run P w = .ok (f,v) w:=by
 obtain ⟨n,hn⟩:=fuel_succ P
 obtain ⟨i,m,e,hi,hm,hp,hu,hf⟩:=h
 rw [hn]
 simp only [method,Sem.run_bind,run_info hi,Result.andThen_ok,hm,hp,follow,Sem.run_pure,hf,receiverAt,run_underlying hu,Place.get]
theorem run_method_val {t e:TypeId} {name:String} {f:FuncId} (h:MethOk P t name f (some e)) (ad:Addr) (u:Value) (w:World) (hl:(loadVar e ad).run P w = .ok u w):(method (P.types.size + Made.depth) t (.pointer (some ad)) name).run P w = .ok (f,u) w:=by
 obtain ⟨n,hn⟩:=fuel_succ P
 obtain ⟨i,m,e',hi,hm,hp,hu,hf,rfl⟩:=h
 rw [hn]
 have hw : ∀ s, (Builtin.ssaWrapNilChk_ #[t] t #[.pointer (some ad), strVal "", strVal s]).run P w = .ok (.pointer (some ad)) w := fun s => rfl
 simp only [method,Sem.run_bind,run_info hi,Result.andThen_ok,hm,hp,follow,Sem.run_pure,hf,receiverAt,run_underlying hu,Place.get,Array.isEmpty_empty,if_true,hw,asAddr,hl]
theorem exec_clo {k:Call} (ho:o.op = .call k) {fo:Operand} (hk:k.callee = .value fo) {f:FuncId} {us:List Value} (hf:a.eval fo = .func (.func f) #[] us.toArray) (w:World):(execOp a.eval o).run P w = (callFunc f (k.args.toList.map a.eval ++ us).toArray).run P w:=by
 have:k.args.map a.eval ++ us.toArray = (k.args.toList.map a.eval ++ us).toArray:=by apply Array.ext'; simp
 simp only [execOp,ho,resolve,hk,hf,Deferred.ofValue,Sem.run_bind,Sem.run_pure,Result.andThen_ok,invoke,Array.empty_append,this]
theorem exec_invoke {k:Call} (ho:o.op = .call k) {r:Operand} {name:String} (hk:k.callee = .invoke r name) {t:TypeId} {v u:Value} (hr:a.eval r = .iface t v) {f:FuncId} (w:World) (hm:(method (P.types.size + Made.depth) t v name).run P w = .ok (f,u) w) :
  (execOp a.eval o).run P w = (callFunc f (u :: k.args.toList.map a.eval).toArray).run P w:=by
 have h1:(#[a.eval r] ++ k.args.map a.eval)[0]? = some (a.eval r):=by rw [Array.getElem?_append_left (by simp)]; rfl
 have h2:(#[a.eval r] ++ k.args.map a.eval).extract 1 (#[a.eval r] ++ k.args.map a.eval).size = k.args.map a.eval:=by
  apply Array.ext'
  simp
  exact List.take_of_length_le (by simp)
 have h3:#[u] ++ k.args.map a.eval = (u :: k.args.toList.map a.eval).toArray:=by apply Array.ext'; simp
 have hp:(program:Sem Program).run P w = .ok P w:=rfl
 rw [hr] at h1 h2
 simp only [execOp,ho,resolve,hk,hr,Sem.run_bind,Sem.run_pure,Result.andThen_ok,invoke,h1,h2,callMethod,hp,hm,h3]
theorem box_get (hM:Mem base G0 own0 c) {id:TypeId} {t s:Ty} (ht:TOk P t id) {b:Nat} {p:List Step} {v u:PV} {x:Value} (hx:VOk c (.ptr b p) x)
  (hb:a0K c.H b = .box s v) (hti:tyIs s p t = true) (hg:getPath v p = some u):∃ ad v',x = .pointer (some ad)∧(loadVar id ad).run P c.w = .ok v' c.w∧fits u t = true∧∃ cs,a1H c u cs∧v' = mkV (isAggPV u) cs:=by
 have hp:=v_ptr hx
 have hB:=hM.blk b
 unfold PtrOk at hp
 unfold BlkOk at hB
 simp only [hb] at hp hB
 obtain ⟨r,off,u',hρ,hoff,hv⟩:=hp
 obtain ⟨r',cs,e,hρ',hh,hc,hfs⟩:=hB
 rw [hρ'] at hρ
 simp only [Value.pointer.injEq,Option.some.injEq,Addr.mk.injEq] at hρ
 obtain ⟨rfl,_,_⟩:=hρ
 have:=tyIs_off hti hoff
 subst this
 obtain ⟨hf,hcu⟩:=getPath_ok v s cs p off u' u hc hfs hoff hg
 have hl:=cells_len _ _ _ hcu hf
 exact ⟨_,_,hv,run_loadVar ht c.w r' off _ hl (cellsAt_of hh),hf,_,hcu,by rw [isAgg_fits hf]⟩
theorem all2_append {X Y:Type} {R:X→Y→Prop}:∀ {l:List X} {r:List Y} {l':List X} {r':List Y},All2 R l r→All2 R l' r'→All2 R (l ++ l') (r ++ r')
 | [],[],_,_,_,h=>h
 | _ :: _,_ :: _,_,_,h,h'=>⟨h.1,all2_append h.2 h'⟩
 | [],_ :: _,_,_,h,_=>h.elim
 | _ :: _,[],_,_,h,_=>h.elim
theorem target_ok {E:Env} (hT:∀ id t,E.ty id = some t→TOk E.P t id) (hmeth:∀ t name f d,E.meth t name = some (f,d)→MethOk E.P t name f d) (hM:Mem base G0 own0 c) {f:FuncId} {vs args:List PV} (h:target E c.H o args = some (f,vs)) (ha:All2 (VOk c) args (o.op.operands.toList.map a.eval)) :
  ∃ us,All2 (VOk c) vs us∧(execOp a.eval o).run E.P c.w = (callFunc f us.toArray).run E.P c.w:=by
 unfold target at h
 split at h
 ·
  rename_i k hop
  split at h
  ·
   rename_i fo hk
   split at h
   ·
    rename_i g ws
    simp only [Option.some.injEq,Prod.mk.injEq] at h
    obtain ⟨rfl,rfl⟩:=h
    have ha':All2 (VOk c) (.fn g :: ws) (a.eval fo :: k.args.toList.map a.eval):=by
     rw [hop] at ha
     simp only [Op.operands,Call.operands,hk] at ha
     simpa using ha
    have hfv:a.eval fo = .func (.func g) #[] ([]:List Value).toArray:=by
     obtain ⟨cs,h1,h2⟩:=ha'.1
     simp only [a1H] at h1
     subst h1; exact h2
    refine ⟨_,ha'.2,?_⟩
    have:=exec_clo (P:=E.P) hop hk hfv c.w
    simpa using this
   ·
    rename_i g cap ws
    split at h
    ·
     rename_i hcap
     simp only [Option.some.injEq,Prod.mk.injEq] at h
     obtain ⟨rfl,rfl⟩:=h
     have ha':All2 (VOk c) (.clo g cap :: ws) (a.eval fo :: k.args.toList.map a.eval):=by
      rw [hop] at ha
      simp only [Op.operands,Call.operands,hk] at ha
      simpa using ha
     obtain ⟨cs,⟨us,e,h1⟩,h2⟩:=ha'.1
     subst e
     have h2:a.eval fo = .func (.func g) #[] us.toArray:=h2
     exact ⟨_,all2_append ha'.2 (cap_list cap us hcap h1),exec_clo hop hk h2 c.w⟩
    ·
     cases h
   ·
    cases h
  ·
   rename_i r name hk
   split at h
   ·
    rename_i t v ws
    have ha':All2 (VOk c) (.iface t v :: ws) (a.eval r :: k.args.toList.map a.eval):=by
     rw [hop] at ha
     simp only [Op.operands,Call.operands,hk] at ha
     simpa using ha
    obtain ⟨cs,⟨ds,e,h1⟩,h2⟩:=ha'.1
    subst e
    have h2:a.eval r = .iface t (mkV (isAggPV v) ds):=h2
    split at h
    ·
     rename_i g hm
     simp only [Option.some.injEq,Prod.mk.injEq] at h
     obtain ⟨rfl,rfl⟩:=h
     exact ⟨mkV (isAggPV v) ds :: k.args.toList.map a.eval,⟨cells_v h1,ha'.2⟩,exec_invoke hop hk h2 c.w (run_method_ptr (hmeth _ _ _ _ hm) _ c.w)⟩
    ·
     rename_i g e hm
     cases v with
     | ptr b p =>
      split at h
      ·
       rename_i u b' p' hu hbp
       injection hbp with e1 e2
       subst e1 e2
       split at h
       ·
        rename_i s x hb
        split at h
        ·
         rename_i y hti hg
         simp only [Option.some.injEq,Prod.mk.injEq] at h
         obtain ⟨rfl,rfl⟩:=h
         obtain ⟨ad,v',e1,e2,_,cs',e3,e4⟩:=box_get (P:=E.P) hM (hT _ _ hu) (cells_v h1) hb hti hg
         rw [e1] at h2
         exact ⟨v' :: k.args.toList.map a.eval,⟨by rw [e4]; exact cells_v e3,ha'.2⟩,exec_invoke hop hk h2 c.w (run_method_val (hmeth _ _ _ _ hm) ad v' c.w e2)⟩
        ·
         cases h
       ·
        cases h
      ·
       cases h
     | _=>split at h <;> first | cases h | (rename_i hx; cases hx)
    ·
     cases h
   ·
    cases h
  ·
   cases h
 ·
  cases h
theorem inl_call {E:Env} (hT:∀ id t,E.ty id = some t→TOk E.P t id) (hmeth:∀ t name f d,E.meth t name = some (f,d)→MethOk E.P t name f d) (hM:Mem base G0 own0 c) {f:FuncId} {vs args:List PV} (h:isInl E c.H o args = some (f,vs)) (ha:All2 (VOk c) args (o.op.operands.toList.map a.eval)) :
  E.how f = some .inl∧∃ us,All2 (VOk c) vs us∧(execOp a.eval o).run E.P c.w = (callFunc f us.toArray).run E.P c.w:=by
 unfold isInl at h
 split at h
 ·
  rename_i g ws ht
  split at h
  ·
   rename_i hh
   simp only [Option.some.injEq,Prod.mk.injEq] at h
   obtain ⟨rfl,rfl⟩:=h
   exact ⟨hh,target_ok hT hmeth hM ht ha⟩
  ·
   cases h
 ·
  cases h
theorem via_call {E:Env} (hT:∀ id t,E.ty id = some t→TOk E.P t id) (hmeth:∀ t name f d,E.meth t name = some (f,d)→MethOk E.P t name f d) (hM:Mem base G0 own0 c) {f:FuncId} {C:Con} {vs args:List PV} (h:isVia E c.H o args = some (f,C,vs)) (ha:All2 (VOk c) args (o.op.operands.toList.map a.eval)) :
  E.how f = some (.con C)∧∃ us,All2 (VOk c) vs us∧(execOp a.eval o).run E.P c.w = (callFunc f us.toArray).run E.P c.w:=by
 unfold isVia at h
 split at h
 ·
  cases h
 ·
  split at h
  ·
   rename_i g ws ht
   split at h
   ·
    rename_i D hh
    simp only [Option.some.injEq,Prod.mk.injEq] at h
    obtain ⟨rfl,rfl,rfl⟩:=h
    exact ⟨hh,target_ok hT hmeth hM ht ha⟩
   ·
    cases h
  ·
   cases h
end
end Sym

/- Shapes: what is taken out of a state stands for the same values. -/
namespace Sym
open Go
def BlkSim:Blk→Blk→Prop
 | .box t _,.box u _=>t = u
 | .row t l,.row u r=>∃ e:t = u,(e ▸ l) = r
 | _,_=>False
structure Part (cc c:Cx) (σ:Sub) (lent:List Nat):Prop where
 w:cc.w = c.w
 blk:∀ i j,σ.get i = some j→cc.ρ i = c.ρ j∧BlkSim (a0K cc.H i) (a0K c.H j)
 G:∀ r,Glent c lent r→cc.G r
theorem part_ptr {cc c:Cx} {σ:Sub} {lent:List Nat} (h:Part cc c σ lent) {i j:Nat} (hij:σ.get i = some j) {p:List Step} {v:Value} (hv:PtrOk c j p v):PtrOk cc i p v:=by
 obtain ⟨hρ,hb⟩:=h.blk i j hij
 unfold PtrOk at *
 unfold BlkSim at hb
 rw [hρ]
 cases h1:a0K cc.H i <;> cases h2:a0K c.H j <;> simp only [h1,h2] at hb hv ⊢
 ·
  subst hb; exact hv
 ·
  obtain ⟨e,hb⟩:=hb; subst e; subst hb; exact hv
theorem part_whole {cc c:Cx} {σ:Sub} {lent:List Nat} (h:Part cc c σ lent) {i j:Nat} (hij:σ.get i = some j) {v:Value} (hv:WholeOk c j v):WholeOk cc i v:=by
 obtain ⟨hρ,hb⟩:=h.blk i j hij
 unfold WholeOk at *
 unfold BlkSim at hb
 rw [hρ]
 cases h1:a0K cc.H i <;> cases h2:a0K c.H j <;> simp only [h1,h2] at hb hv ⊢
 exact hv
theorem get_bind {σ σ':Sub} {i j:Nat} (h:σ.bind i j = some σ'):σ'.get i = some j∧(∀ k l,σ.get k = some l→σ'.get k = some l):=by
 unfold Sub.bind at h
 split at h
 ·
  rename_i j' hj
  split at h
  ·
   rename_i hb
   have hb:=Nat.eq_of_beq_eq_true hb
   simp only [Option.some.injEq] at h
   subst h; subst hb
   exact ⟨hj,fun k l hk=>hk⟩
  ·
   cases h
 ·
  rename_i hn
  split at h
  ·
   cases h
  ·
   simp only [Option.some.injEq] at h
   subst h
   refine ⟨by simp [Sub.get,Nat.beq_refl],fun k l hk=>?_⟩
   simp only [Sub.get]
   split
   ·
    rename_i hb
    have hb:=Nat.eq_of_beq_eq_true hb
    subst hb
    rw [hn] at hk; cases hk
   ·
    exact hk
def Mle (m m':Mt):Prop:=(∀ k l,m.σ.get k = some l→m'.σ.get k = some l)∧∀ b,b ∈ m.lent→b ∈ m'.lent
theorem Mle.refl (m:Mt):Mle m m:=⟨fun _ _ h=>h,fun _ h=>h⟩
theorem Mle.trans {a b c:Mt} (h:Mle a b) (h':Mle b c):Mle a c:=⟨fun k l hk=>h'.1 k l (h.1 k l hk),fun x hx=>h'.2 x (h.2 x hx)⟩
theorem Part.le {cc c:Cx} {m m':Mt} (h:Part cc c m'.σ m'.lent) (hle:Mle m m'):Part cc c m.σ m.lent :=
 ⟨h.w,fun i j hij=>h.blk i j (hle.1 i j hij),fun r hr=>h.G r (Glent_mono hle.2 r hr)⟩
theorem beq_path:∀ {p q:List Step},pathEq p q = true→p = q
 | [],[],_=>rfl
 | a :: p,b :: q,h=>by
  simp only [pathEq,Bool.and_eq_true] at h
  have:a = b:=by
   cases a <;> cases b <;> simp only [stepEq] at h <;> first | (have:=Nat.eq_of_beq_eq_true h.1; rw [this]) | (cases h.1)
  rw [this,beq_path h.2]
 | [],_ :: _,h=>by simp [pathEq] at h
 | _ :: _,[],h=>by simp [pathEq] at h
theorem Sh_ext {c:Cx} (hB:∀ b,BlkOk c b):∀ (s:Sh) (v:PV) (m m':Mt) (x:s.D),s.ext c.H v m = some (x,m')→Mle m m' ∧
  ∀ (cc:Cx) (cs:List Value),Part cc c m'.σ m'.lent→a1H c v cs→a1H cc (s.mk x) cs∧isAggPV (s.mk x) = isAggPV v:=by
 intro s
 induction s with
 | pl t =>
  intro v m m' x h
  have h:(match toVal c.H t v with | some (x,l)=>some (x,(⟨m.σ,l ++ m.lent⟩:Mt)) | none=>none) = some (x,m'):=h
  split at h
  ·
   rename_i y l hy
   have h:=Option.some.inj h
   obtain ⟨rfl,rfl⟩:=Prod.mk.inj h
   refine ⟨⟨fun k l h=>h,fun b hb=>by simp [hb]⟩,fun cc cs hp hc=>⟨?_,?_⟩⟩
   ·
    have:=toVal_ok hB t v cs y l hc hy
    show Enc cc.w cc.G t y cs
    rw [hp.w]
    exact Enc_G (fun r hr=>hp.G r (Glent_mono (fun b hb=>by simp [hb]) r hr)) this
   ·
    show t.isAgg = _
    cases v with
    | val u z =>
     have:(match Ty.cast u t z with | some y=>some (y,([]:List Nat)) | none=>none) = some (y,l):=by cases t <;> exact hy
     split at this
     ·
      rename_i hz
      obtain ⟨e,_⟩:=cast_eq hz
      subst e; rfl
     ·
      cases this
    | pair p q=>cases t <;> first | rfl | (simp [toVal] at hy)
    | tup p=>exact hc.elim
    | undef=>exact hc.elim
    | _=>cases t <;> first | rfl | (simp [toVal] at hy)
  ·
   cases h
 | bp t =>
  intro v m m' x h
  cases v with
  | bptr u y =>
   have h:(match Ty.cast u t y with | some y=>some (y,m) | none=>none) = some (x,m'):=h
   split at h
   ·
    rename_i z hz
    obtain ⟨e,rfl⟩:=cast_eq hz
    subst e
    have h:=Option.some.inj h
    obtain ⟨rfl,rfl⟩:=Prod.mk.inj h
    refine ⟨Mle.refl _,fun cc cs hp hc=>⟨?_,rfl⟩⟩
    obtain ⟨ad,ds,h1,h2,h3,h4,h5⟩:=hc
    refine ⟨ad,ds,h1,h2,hp.G _ (.inl h3),?_,?_⟩
    ·
     rw [hp.w]; exact Enc_G (fun r hr=>hp.G r (.inl hr)) h4
    ·
     rw [hp.w]; exact h5
   ·
    cases h
  | ptr b p =>
   have h:(match peek c.H t b p with | some (x,l)=>some (x,(⟨m.σ,l ++ m.lent⟩:Mt)) | none=>none) = some (x,m'):=h
   split at h
   ·
    rename_i y l hy
    have h:=Option.some.inj h
    obtain ⟨rfl,rfl⟩:=Prod.mk.inj h
    refine ⟨⟨fun k l h=>h,fun b hb=>by simp [hb]⟩,fun cc cs hp hc=>⟨?_,rfl⟩⟩
    obtain ⟨v,rfl,_,hv⟩:=hc
    unfold peek at hy
    unfold PtrOk at hv
    have hb:=hB b
    unfold BlkOk at hb
    cases h1:a0K c.H b with
    | box t0 v0 =>
     simp only [h1] at hy hv hb
     split at hy
     ·
      rename_i y0 hg
      split at hy
      ·
       rename_i z l' hz
       have hy:=Option.some.inj hy
       obtain ⟨rfl,rfl⟩:=Prod.mk.inj hy
       obtain ⟨r,cs0,ty,e1,e2,hcs,hf⟩:=hb
       obtain ⟨r',o,u,e3,e4,rfl⟩:=hv
       rw [e1] at e3
       simp only [Value.pointer.injEq,Option.some.injEq,Addr.mk.injEq] at e3
       obtain ⟨rfl,_,_⟩:=e3
       obtain ⟨hf',hc'⟩:=getPath_ok v0 t0 cs0 p o u _ hcs hf e4 hg
       have he:=toVal_ok hB t y0 _ _ _ hc' hz
       refine ⟨⟨r,o,none⟩,(cs0.drop o).take u.sz,rfl,rfl,hp.G _ (.inr ⟨b,by simp,by simp [h1,live],by simp [e1,blkOf]⟩),?_,?_⟩
       ·
        rw [hp.w]; exact Enc_G (fun r hr=>hp.G r (Glent_mono (fun b hb=>by simp [hb]) r hr)) he
       ·
        rw [hp.w]
        intro j d hj
        simp only [World.cell?,e2,Option.isSome_none,Bool.false_eq_true,if_false]
        rw [List.getElem?_take] at hj
        split at hj
        ·
         rw [List.getElem?_drop] at hj; simpa using hj
        ·
         cases hj
      ·
       cases hy
     ·
      cases hy
    | _=>simp [h1] at hy
   ·
    cases h
  | _=>simp [Sh.ext] at h
 | ptr b p =>
  intro v m m' x h
  cases v with
  | ptr b' q =>
   simp only [Sh.ext] at h
   split at h
   ·
    rename_i hpq
    have:=beq_path hpq
    subst this
    split at h
    ·
     rename_i σ' hσ
     have h:=Option.some.inj h
     obtain ⟨rfl,rfl⟩:=Prod.mk.inj h
     obtain ⟨g1,g2⟩:=get_bind hσ
     refine ⟨⟨g2,fun b hb=>hb⟩,fun cc cs hp hc=>⟨?_,rfl⟩⟩
     obtain ⟨v,e,h1,h2⟩:=hc
     exact ⟨v,e,h1,part_ptr hp g1 h2⟩
    ·
     cases h
   ·
    cases h
  | _=>simp [Sh.ext] at h
 | npt =>
  intro v m m' x h
  cases v with
  | npt =>
   simp only [Sh.ext] at h
   have h:=Option.some.inj h
   obtain ⟨rfl,rfl⟩:=Prod.mk.inj h
   exact ⟨Mle.refl _,fun cc cs hp hc=>⟨hc,rfl⟩⟩
  | _=>simp [Sh.ext] at h
 | whole b =>
  intro v m m' x h
  cases v with
  | whole b' =>
   simp only [Sh.ext] at h
   split at h
   ·
    rename_i σ' hσ
    have h:=Option.some.inj h
    obtain ⟨rfl,rfl⟩:=Prod.mk.inj h
    obtain ⟨g1,g2⟩:=get_bind hσ
    refine ⟨⟨g2,fun b hb=>hb⟩,fun cc cs hp hc=>⟨?_,rfl⟩⟩
    obtain ⟨v,e,h1,h2⟩:=hc
    exact ⟨v,e,h1,part_whole hp g1 h2⟩
   ·
    cases h
  | _=>simp [Sh.ext] at h
 | pair p q ihp ihq =>
  intro v m m' x h
  cases v with
  | pair u w =>
   simp only [Sh.ext] at h
   split at h
   ·
    rename_i y m1 hy
    split at h
    ·
     rename_i z m2 hz
     have h:=Option.some.inj h
     obtain ⟨rfl,rfl⟩:=Prod.mk.inj h
     obtain ⟨l1,r1⟩:=ihp u m m1 y hy
     obtain ⟨l2,r2⟩:=ihq w m1 m2 z hz
     refine ⟨l1.trans l2,fun cc cs hp hc=>⟨?_,rfl⟩⟩
     obtain ⟨c1,c2,e,h1,h2⟩:=hc
     exact ⟨c1,c2,e,(r1 cc c1 (hp.le l2) h1).1,(r2 cc c2 hp h2).1⟩
    ·
     cases h
   ·
    cases h
  | _=>simp [Sh.ext] at h
 | fn f =>
  intro v m m' x h
  cases v with
  | fn g =>
   simp only [Sh.ext] at h
   split at h
   ·
    rename_i hb
    have:=Nat.eq_of_beq_eq_true hb
    subst this
    have h:=Option.some.inj h
    obtain ⟨rfl,rfl⟩:=Prod.mk.inj h
    exact ⟨Mle.refl _,fun cc cs hp hc=>⟨hc,rfl⟩⟩
   ·
    cases h
  | _=>simp [Sh.ext] at h
 | iface t s ih =>
  intro v m m' x h
  cases v with
  | iface u w =>
   simp only [Sh.ext] at h
   split at h
   ·
    rename_i hb
    have:=Nat.eq_of_beq_eq_true hb
    subst this
    obtain ⟨l1,r1⟩:=ih w m m' x h
    refine ⟨l1,fun cc cs hp hc=>⟨?_,rfl⟩⟩
    obtain ⟨ds,e,h1⟩:=hc
    obtain ⟨k1,k2⟩:=r1 cc ds hp h1
    exact ⟨ds,by rw [k2]; exact e,k1⟩
   ·
    cases h
  | _=>simp [Sh.ext] at h
 | clo f s ih =>
  intro v m m' x h
  cases v with
  | clo g w =>
   simp only [Sh.ext] at h
   split at h
   ·
    rename_i hb
    have:=Nat.eq_of_beq_eq_true hb
    subst this
    obtain ⟨l1,r1⟩:=ih w m m' x h
    refine ⟨l1,fun cc cs hp hc=>⟨?_,rfl⟩⟩
    obtain ⟨us,e,h1⟩:=hc
    exact ⟨us,e,(r1 cc us hp h1).1⟩
   ·
    cases h
  | _=>simp [Sh.ext] at h
 | dead=>intro v m m' x h; cases v <;> simp [Sh.ext] at h
theorem Sh_ext_v {c:Cx} (hB:∀ b,BlkOk c b) {s:Sh} {v:PV} {m m':Mt} {x:s.D} (h:s.ext c.H v m = some (x,m')):Mle m m' ∧
  ∀ (cc:Cx) (u:Value),Part cc c m'.σ m'.lent→VOk c v u→VOk cc (s.mk x) u:=by
 obtain ⟨h1,h2⟩:=Sh_ext hB s v m m' x h
 refine ⟨h1,fun cc u hp hv=>?_⟩
 cases v with
 | tup p=>cases s <;> first | (simp [Sh.ext] at h; done) | (rename_i t; cases t <;> simp [Sh.ext,toVal] at h)
 | undef=>cases s <;> first | (simp [Sh.ext] at h; done) | (rename_i t; cases t <;> simp [Sh.ext,toVal] at h)
 | _ =>
  obtain ⟨cs,hc,hu⟩:=hv
  obtain ⟨k1,k2⟩:=h2 cc cs hp hc
  rw [← k2] at hu
  generalize s.mk x = pv at k1 hu
  cases pv <;> first | exact k1.elim | exact ⟨cs,k1,hu⟩
theorem extSlots_ok {c:Cx} (hB:∀ b,BlkOk c b):∀ (l:List Sh) (vs:List PV) (m m':Mt) (x:ShD l),extSlots c.H l vs m = some (x,m')→Mle m m' ∧
  ∀ (cc:Cx) (us:List Value),Part cc c m'.σ m'.lent→All2 (VOk c) vs us→∃ us',us = us' ++ us.drop l.length∧us'.length = l.length∧All2 (VOk cc) (a1U l x) us':=by
 intro l
 induction l with
 | nil =>
  intro vs m m' x h
  simp only [extSlots,Option.some.injEq,Prod.mk.injEq] at h
  obtain ⟨_,rfl⟩:=h
  exact ⟨Mle.refl _,fun cc us _ _=>⟨[],by simp,rfl,trivial⟩⟩
 | cons s l ih =>
  intro vs m m' x h
  cases vs with
  | nil=>simp [extSlots] at h
  | cons v vs =>
   simp only [extSlots] at h
   split at h
   ·
    rename_i y m1 hy
    split at h
    ·
     rename_i z m2 hz
     have h:=Option.some.inj h
     obtain ⟨rfl,rfl⟩:=Prod.mk.inj h
     obtain ⟨l2,r2⟩:=ih vs m1 m2 z hz
     have hmk:a1U (s :: l) (ShD.cons s l y z) = s.mk y :: a1U l z:=by cases s <;> rfl
     have hstep:Mle m m1∧∀ (cc:Cx) (u:Value),Part cc c m1.σ m1.lent→VOk c v u→VOk cc (s.mk y) u:=by
      cases s with
      | dead =>
       simp only [Sh.ext',Option.some.injEq,Prod.mk.injEq] at hy
       obtain ⟨_,rfl⟩:=hy
       exact ⟨Mle.refl _,fun _ _ _ _=>trivial⟩
      | _=>exact Sh_ext_v hB hy
     obtain ⟨l1,r1⟩:=hstep
     refine ⟨l1.trans l2,fun cc us hp ha=>?_⟩
     cases us with
     | nil=>exact ha.elim
     | cons u us =>
      obtain ⟨hu,ha⟩:=ha
      obtain ⟨us',e,hl,ha'⟩:=r2 cc us hp ha
      refine ⟨u :: us',by simp only [List.length_cons,List.drop_succ_cons,List.cons_append]; rw [← e],by simp [hl],?_⟩
      rw [hmk]
      exact ⟨r1 cc u (hp.le l2) hu,ha'⟩
    ·
     cases h
   ·
    cases h
end Sym

/- Shapes: a whole state's part. -/
namespace Sym
open Go
theorem mle_bext {c:Cx} (hB:∀ b,BlkOk c b) {b:BSh} {B:Blk} {m m':Mt} {x:b.D} (h:b.ext c.H B m = some (x,m')):Mle m m'∧BlkSim (b.mk x) B:=by
 cases b with
 | box t s =>
  cases B with
  | box u v =>
   simp only [BSh.ext] at h
   split at h
   ·
    rename_i htu
    split at h
    ·
     rename_i y m1 hy
     split at h
     ·
      have h:=Option.some.inj h
      obtain ⟨rfl,rfl⟩:=Prod.mk.inj h
      exact ⟨(Sh_ext hB s v m m1 y hy).1,Ty.beq_eq htu⟩
     ·
      cases h
    ·
     cases h
   ·
    cases h
  | _=>simp [BSh.ext] at h
 | row t =>
  cases B with
  | row u l =>
   simp only [BSh.ext] at h
   split at h
   ·
    rename_i y hy
    obtain ⟨e,rfl⟩:=cast_eq hy
    injection e with e
    subst e
    have h:=Option.some.inj h
    obtain ⟨rfl,rfl⟩:=Prod.mk.inj h
    exact ⟨Mle.refl _,rfl,rfl⟩
   ·
    cases h
  | _=>simp [BSh.ext] at h
theorem bext_ok {c:Cx} (hB:∀ b,BlkOk c b) {b:BSh} {j:Nat} {m m':Mt} {x:b.D} (h:b.ext c.H (a0K c.H j) m = some (x,m')) {cc:Cx} (hp:Part cc c m'.σ m'.lent) {i:Nat} (hij:m'.σ.get i = some j) (hi:a0K cc.H i = b.mk x):BlkOk cc i:=by
 have hb:=hB j
 obtain ⟨hρ,_⟩:=hp.blk i j hij
 unfold BlkOk at hb ⊢
 rw [hi]
 cases b with
 | box t s =>
  cases hB2:a0K c.H j with
  | box u v =>
   rw [hB2] at h
   simp only [hB2] at hb
   simp only [BSh.ext] at h
   split at h
   ·
    split at h
    ·
     rename_i y m1 hy
     split at h
     ·
      rename_i hfit
      have h:=Option.some.inj h
      obtain ⟨rfl,rfl⟩:=Prod.mk.inj h
      obtain ⟨r,cs,ty,e1,e2,e3,e4⟩:=hb
      exact ⟨r,cs,ty,hρ.trans e1,by rw [hp.w]; exact e2,((Sh_ext hB s v m m1 y hy).2 cc cs hp e3).1,hfit⟩
     ·
      cases h
    ·
     cases h
   ·
    cases h
  | _=>rw [hB2] at h; simp [BSh.ext] at h
 | row t =>
  cases hB2:a0K c.H j with
  | row u l =>
   rw [hB2] at h
   simp only [hB2] at hb
   simp only [BSh.ext] at h
   split at h
   ·
    rename_i y hy
    obtain ⟨e,rfl⟩:=cast_eq hy
    injection e with e
    subst e
    have h:=Option.some.inj h
    obtain ⟨rfl,rfl⟩:=Prod.mk.inj h
    obtain ⟨hl,e,xs,ho,hx⟩:=hb
    refine ⟨hl,e,xs,?_,EncL_mono (fun x cs he=>?_) _ xs hx⟩
    ·
     show cc.w.ownsRow 0 e _ (cc.ρ i) _ xs
     rw [hρ,hp.w]; exact ho
    ·
     rw [hp.w]; exact Enc_G (fun r hr=>hp.G r (.inl hr)) he
   ·
    cases h
  | _=>rw [hB2] at h; simp [BSh.ext] at h
theorem extHeap_ok {c:Cx} (hB:∀ b,BlkOk c b):∀ (l:List BSh) (i0:Nat) (m m':Mt) (y:BShD l),extHeap c.H l i0 m = some (y,m')→Mle m m' ∧
  (∀ k,k < l.length→∃ j,m'.σ.get (i0 + k) = some j∧BlkSim (a0K (mkHeap l y) k) (a0K c.H j)) ∧
  ∀ cc,Part cc c m'.σ m'.lent→(∀ k,k < l.length→a0K cc.H (i0 + k) = a0K (mkHeap l y) k)→∀ k,k < l.length→BlkOk cc (i0 + k):=by
 intro l
 induction l with
 | nil =>
  intro i0 m m' y h
  simp only [extHeap,Option.some.injEq,Prod.mk.injEq] at h
  obtain ⟨_,rfl⟩:=h
  exact ⟨Mle.refl _,fun k hk=>by simp at hk,fun cc _ _ k hk=>by simp at hk⟩
 | cons b l ih =>
  intro i0 m m' y h
  simp only [extHeap] at h
  split at h
  ·
   rename_i j hj
   split at h
   ·
    rename_i x m1 hx
    split at h
    ·
     rename_i z m2 hz
     have h:=Option.some.inj h
     obtain ⟨rfl,rfl⟩:=Prod.mk.inj h
     obtain ⟨l1,s1⟩:=mle_bext hB hx
     obtain ⟨l2,s2,r2⟩:=ih (i0 + 1) m1 m2 z hz
     refine ⟨l1.trans l2,fun k hk=>?_,fun cc hp hH k hk=>?_⟩
     ·
      cases k with
      | zero=>exact ⟨j,l2.1 _ _ (l1.1 _ _ hj),s1⟩
      | succ k =>
       obtain ⟨j',g1,g2⟩:=s2 k (by simpa using hk)
       exact ⟨j',by rw [show i0 + (k + 1) = i0 + 1 + k by omega]; exact g1,g2⟩
     ·
      cases k with
      | zero=>exact bext_ok hB hx (hp.le l2) (l1.1 _ _ hj) (hH 0 (by simp))
      | succ k =>
       have:=r2 cc hp (fun k hk=>by have:=hH (k + 1) (by simpa using hk); rw [show i0 + 1 + k = i0 + (k + 1) by omega]; exact this) k (by simpa using hk)
       rw [show i0 + (k + 1) = i0 + 1 + k by omega]
       exact this
    ·
     cases h
   ·
    cases h
  ·
   cases h
theorem blkAt_ge:∀ (H:List Blk) (i:Nat),H.length ≤ i→a0K H i = .unborn
 | [],_,_=>rfl
 | _ :: H,0,h=>by simp at h
 | _ :: H,i + 1,h=>blkAt_ge H i (by simpa using h)
theorem mkHeap_len:∀ (l:List BSh) (y:BShD l),(mkHeap l y).length = l.length
 | [],_=>rfl
 | _ :: l,y=>by simp [mkHeap,mkHeap_len l y.2]
theorem keys_ok:∀ (σ:Sub) (n:Nat),σ.keys n = true→∀ i j,σ.get i = some j→i < n
 | [],_,_,i,j,h=>by cases h
 | (k,l) :: σ,n,hk,i,j,h=>by
  simp only [Sub.keys,Bool.and_eq_true] at hk
  simp only [Sub.get] at h
  split at h
  ·
   rename_i hb
   have:=Nat.eq_of_beq_eq_true hb
   have:=Nat.le_of_ble_eq_true hk.1
   omega
  ·
   exact keys_ok σ n hk.2 i j h
theorem inv_of_get:∀ (σ:Sub) (i j:Nat),σ.get i = some j→σ.inv j = true
 | [],_,_,h=>by cases h
 | (k,l) :: σ,i,j,h=>by
  simp only [Sub.get] at h
  simp only [Sub.inv,Bool.or_eq_true]
  split at h
  ·
   left; simp only [Option.some.injEq] at h; rw [h]; exact Nat.beq_refl j
  ·
   right; exact inv_of_get σ i j h
theorem inj_ok:∀ (σ:Sub),σ.inj = true→∀ i i' j,σ.get i = some j→σ.get i' = some j→i = i'
 | [],_,i,i',j,h,_=>by cases h
 | (k,l) :: σ,hk,i,i',j,h,h'=>by
  simp only [Sub.inj,Bool.and_eq_true,Bool.not_eq_true'] at hk
  simp only [Sub.get] at h h'
  split at h
  ·
   rename_i hb
   have e1:=Nat.eq_of_beq_eq_true hb
   simp only [Option.some.injEq] at h
   split at h'
   ·
    rename_i hb'
    have e2:=Nat.eq_of_beq_eq_true hb'
    omega
   ·
    have:=inv_of_get σ i' j h'
    rw [← h] at this
    rw [hk.1] at this; cases this
  ·
   split at h'
   ·
    simp only [Option.some.injEq] at h'
    have:=inv_of_get σ i j h
    rw [← h'] at this
    rw [hk.1] at this; cases this
   ·
    exact inj_ok σ hk.2 i i' j h h'
def partCx (c:Cx) (τ:Tm) (x:τ.D) (m:Mt) (G:Nat→Prop):Cx :=
 ⟨c.w,G,fun i=>match m.σ.get i with | some j=>c.ρ j | none=>.bool false,mkHeap τ.heap x.2⟩
theorem Tm_extF {c:Cx} (hB:∀ b,BlkOk c b) {τ:Tm} {vs:List PV} {x:τ.D} {m0 m:Mt} (h:τ.extF m0 vs c.H = some (x,m)) :
  Mle m0 m∧(∀ b,b ∈ m.lent→m.σ.inv b = false∧live (a0K c.H b) = true)∧(∀ i j,m.σ.get i = some j→i < τ.heap.length)∧(∀ i,i < τ.heap.length→∃ j,m.σ.get i = some j)∧(∀ i i' j,m.σ.get i = some j→m.σ.get i' = some j→i = i') ∧
  (∀ i j,m.σ.get i = some j→BlkSim (a0K (mkHeap τ.heap x.2) i) (a0K c.H j)) ∧
  ∀ (G:Nat→Prop),(∀ r,Glent c m.lent r→G r)→(∀ i,BlkOk (partCx c τ x m G) i) ∧
   ∀ us,All2 (VOk c) vs us→∃ us',us = us' ++ us.drop τ.slots.length∧us'.length = τ.slots.length∧All2 (VOk (partCx c τ x m G)) (a1U τ.slots x.1) us':=by
 unfold Tm.extF at h
 split at h
 ·
  rename_i y m1 hy
  split at h
  ·
   rename_i z m2 hz
   split at h
   ·
    rename_i hok
    have h:=Option.some.inj h
    obtain ⟨rfl,rfl⟩:=Prod.mk.inj h
    simp only [Mt.okb,Bool.and_eq_true,List.all_eq_true,Bool.not_eq_true'] at hok
    obtain ⟨k1,k2,k3⟩:=hok
    obtain ⟨l1,r1⟩:=extSlots_ok hB τ.slots vs m0 m1 y hy
    obtain ⟨l2,s2,r2⟩:=extHeap_ok hB τ.heap 0 m1 m2 z hz
    simp only [Nat.zero_add] at s2 r2
    have hsim:∀ i j,m2.σ.get i = some j→BlkSim (a0K (mkHeap τ.heap z) i) (a0K c.H j):=by
     intro i j hij
     obtain ⟨j',g1,g2⟩:=s2 i (keys_ok _ _ k2 i j hij)
     rw [hij] at g1
     simp only [Option.some.injEq] at g1
     subst g1
     exact g2
    refine ⟨l1.trans l2,k1,keys_ok _ _ k2,fun i hi=>(s2 i hi).imp fun j hj=>hj.1,inj_ok _ k3,hsim,fun G hG=>?_⟩
    have hp:Part (partCx c τ (y,z) m2 G) c m2.σ m2.lent:=⟨rfl,fun i j hij=>⟨by simp [partCx,hij],hsim i j hij⟩,hG⟩
    refine ⟨fun i=>?_,fun us ha=>r1 _ us (hp.le l2) ha⟩
    by_cases hi:i < τ.heap.length
    ·
     exact r2 _ hp (fun k _=>rfl) i hi
    ·
     unfold BlkOk
     rw [show a0K (partCx c τ (y,z) m2 G).H i = .unborn from blkAt_ge _ _ (by rw [show (partCx c τ (y,z) m2 G).H = mkHeap τ.heap z from rfl,mkHeap_len]; omega)]
     trivial
   ·
    cases h
  ·
   cases h
 ·
  cases h
theorem Tm_ext {c:Cx} (hB:∀ b,BlkOk c b) {τ:Tm} {vs:List PV} {x:τ.D} {m:Mt} (h:τ.ext vs c.H = some (x,m)) :
  (∀ b,b ∈ m.lent→m.σ.inv b = false∧live (a0K c.H b) = true)∧(∀ i j,m.σ.get i = some j→i < τ.heap.length)∧(∀ i,i < τ.heap.length→∃ j,m.σ.get i = some j)∧(∀ i i' j,m.σ.get i = some j→m.σ.get i' = some j→i = i') ∧
  (∀ i j,m.σ.get i = some j→BlkSim (a0K (mkHeap τ.heap x.2) i) (a0K c.H j)) ∧
  ∀ (G:Nat→Prop),(∀ r,Glent c m.lent r→G r)→(∀ i,BlkOk (partCx c τ x m G) i) ∧
   ∀ us,All2 (VOk c) vs us→∃ us',us = us' ++ us.drop τ.slots.length∧us'.length = τ.slots.length∧All2 (VOk (partCx c τ x m G)) (a1U τ.slots x.1) us':=(Tm_extF hB h).2
theorem bindK_ok:∀ (l:List PV) (i:Nat) (σ σ':Sub),bindK l i σ = some σ'→(∀ k v,σ.get k = some v→σ'.get k = some v)∧∀ j,j < l.length→∃ b,l[j]? = some (.ptr b [])∧σ'.get (i + j) = some b
 | [],i,σ,σ',h=>by
  simp only [bindK,Option.some.injEq] at h
  subst h
  exact ⟨fun k v h=>h,fun j h=>by simp at h⟩
 | .ptr b [] :: l,i,σ,σ',h=>by
  simp only [bindK] at h
  split at h
  ·
   rename_i σ1 h1
   obtain ⟨g1,g2⟩:=get_bind h1
   obtain ⟨k1,k2⟩:=bindK_ok l (i + 1) σ1 σ' h
   refine ⟨fun k v hk=>k1 k v (g2 k v hk),fun j hj=>?_⟩
   cases j with
   | zero=>exact ⟨b,rfl,k1 _ _ g1⟩
   | succ j =>
    obtain ⟨b',q1,q2⟩:=k2 j (by simpa using hj)
    exact ⟨b',by simpa using q1,by rw [show i + (j + 1) = i + 1 + j by omega]; exact q2⟩
  ·
   cases h
 | .ptr b (s :: p) :: l,i,σ,σ',h=>by simp [bindK] at h
 | .val _ _ :: _,_,_,_,h=>by simp [bindK] at h
 | .nils :: _,_,_,_,h=>by simp [bindK] at h
 | .pair _ _ :: _,_,_,_,h=>by simp [bindK] at h
 | .tup _ :: _,_,_,_,h=>by simp [bindK] at h
 | .bptr _ _ :: _,_,_,_,h=>by simp [bindK] at h
 | .npt :: _,_,_,_,h=>by simp [bindK] at h
 | .whole _ :: _,_,_,_,h=>by simp [bindK] at h
 | .row _ _ _ :: _,_,_,_,h=>by simp [bindK] at h
 | .aview _ _ _ _ :: _,_,_,_,h=>by simp [bindK] at h
 | .fn _ :: _,_,_,_,h=>by simp [bindK] at h
 | .iface _ _ :: _,_,_,_,h=>by simp [bindK] at h
 | .clo _ _ :: _,_,_,_,h=>by simp [bindK] at h
 | .cut _ _ :: _,_,_,_,h=>by simp [bindK] at h
 | .undef :: _,_,_,_,h=>by simp [bindK] at h
end Sym

/- Calls by contract. -/
namespace Sym
open Go
structure Start (c:Cx):Prop where
 blk:∀ b,BlkOk c b
 inj:∀ b b' r,live (a0K c.H b) = true→live (a0K c.H b') = true→blkOf (c.ρ b) = some r→blkOf (c.ρ b') = some r→b = b'
 G:∀ r,c.G r→r < c.w.heap.size∧∀ b,live (a0K c.H b) = true→blkOf (c.ρ b) ≠ some r
def ownOf (c:Cx):Nat→Prop:=fun r=>∃ b,live (a0K c.H b) = true∧blkOf (c.ρ b) = some r
def G0of (c:Cx):Nat→Prop:=fun r=>c.G r ∨ ownOf c r
theorem Start.mem {c:Cx} (h:Start c):Mem c.w (G0of c) (ownOf c) c:=by
 refine ⟨rfl,rfl,rfl,Nat.le_refl _,fun _ _ _=>rfl,h.blk,h.inj,fun b r hl he=>.inl ⟨b,hl,he⟩,?_,fun r hr=>.inr hr⟩
 funext r
 refine propext ⟨fun hr=>⟨.inl (.inl hr),h.G r hr⟩,fun hr=>?_⟩
 obtain ⟨h1,h2,h3⟩:=hr
 rcases h1 with (h1 | ⟨b,hl,he⟩) | h1
 ·
  exact h1
 ·
  exact absurd he (h3 b hl)
 ·
  omega
def CallsX (P:Program) (f:FuncId) (args:Array Value) (w:World) (R:Value→World→Prop):Prop :=
 (∃ v w',(callFunc f args).run P w = .ok (.value v) w'∧R v w') ∨
 ((callFunc f args).run P w = .ok (.enter f args) w∧Calls P f args w fun e w'=>∃ v,e = .returned v∧R v w')
def a0X (P:Program) (f:FuncId) (C:Con):Prop :=
 ∀ x y,C.F x = some y→∀ (c:Cx) (vals:List Value),Start c→c.H = mkHeap C.In.heap x.2→All2 (VOk c) (a1U C.In.slots x.1) vals →
  CallsX P f vals.toArray c.w fun v w'=>∃ c',c'.w = w'∧c'.H = mkHeap C.Out.heap y.2∧VOk c' (tuple (a1U C.Out.slots y.1)) v∧Mem c.w (G0of c) (ownOf c) c'∧∀ i,i < keepN C.In.heap→c'.ρ i = c.ρ i
def pvNoSl:PV→Bool
 | .val t _=>!t.hasSl
 | .pair a b=>pvNoSl a && pvNoSl b
 | .tup a=>pvNoSl a
 | .bptr _ _=>false
 | .iface _ v=>pvNoSl v
 | .clo _ v=>pvNoSl v
 | _=>true
theorem mk_nosl:∀ (s:Sh) (x:s.D),s.hasSl = false→pvNoSl (s.mk x) = true:=by
 intro s
 induction s with
 | pl t=>intro x h; simp only [Sh.hasSl] at h; simp [Sh.mk,pvNoSl,h]
 | pair a b iha ihb=>intro x h; simp only [Sh.hasSl,Bool.or_eq_false_iff] at h; simp [Sh.mk,pvNoSl,iha _ h.1,ihb _ h.2]
 | iface t s ih=>intro x h; exact ih x h
 | clo f s ih=>intro x h; exact ih x h
 | bp t=>intro x h; simp [Sh.hasSl] at h
 | _=>intro x _; rfl
structure Ren (c1 c2:Cx) (f:Nat→Nat):Prop where
 w:c2.w = c1.w
 blk:∀ i,a0K c1.H i ≠ .unborn→a0K c2.H (f i) = renBlk f (a0K c1.H i)∧c2.ρ (f i) = c1.ρ i
theorem ptr_ren {c1 c2:Cx} {f:Nat→Nat} (h:Ren c1 c2 f) {b:Nat} {p:List Step} {v:Value} (hv:PtrOk c1 b p v):PtrOk c2 (f b) p v:=by
 unfold PtrOk at *
 cases hb:a0K c1.H b with
 | unborn=>simp [hb] at hv
 | dead=>have:=(h.blk b (by simp [hb])).1; simp only [hb,renBlk] at hv this; simp only [this]; exact hv
 | box t u=>obtain ⟨e1,e2⟩:=h.blk b (by simp [hb]); simp only [hb,renBlk] at hv e1; simp only [e1,e2]; exact hv
 | row t l=>obtain ⟨e1,e2⟩:=h.blk b (by simp [hb]); simp only [hb,renBlk] at hv e1; simp only [e1,e2]; exact hv
theorem isAgg_ren (f:Nat→Nat) (v:PV):isAggPV (renPV f v) = isAggPV v:=by cases v <;> rfl
theorem cells_ren {c1 c2:Cx} {f:Nat→Nat} (h:Ren c1 c2 f):∀ (v:PV) (cs:List Value),((∀ r,c1.G r→c2.G r) ∨ pvNoSl v = true)→a1H c1 v cs→a1H c2 (renPV f v) cs:=by
 intro v
 induction v with
 | val t x =>
  intro cs hG he
  show Enc c2.w c2.G t x cs
  rcases hG with hG | hG
  ·
   rw [h.w]; exact Enc_G hG he
  ·
   exact Enc_nosl t (by simpa [pvNoSl] using hG) x cs he
 | pair a b iha ihb =>
  intro cs hG he
  obtain ⟨d1,d2,e,h1,h2⟩:=he
  refine ⟨d1,d2,e,iha _ (hG.imp _root_.id fun h=>?_) h1,ihb _ (hG.imp _root_.id fun h=>?_) h2⟩ <;> simp only [pvNoSl,Bool.and_eq_true] at h
  ·
   exact h.1
  ·
   exact h.2
 | ptr b p=>intro cs hG he; obtain ⟨v,e,h1,h2⟩:=he; exact ⟨v,e,h1,ptr_ren h h2⟩
 | bptr t x =>
  intro cs hG he
  obtain ⟨ad,ds,h1,h2,h3,h4,h5⟩:=he
  rcases hG with hG | hG
  ·
   exact ⟨ad,ds,h1,h2,hG _ h3,by rw [h.w]; exact Enc_G hG h4,by rw [h.w]; exact h5⟩
  ·
   simp [pvNoSl] at hG
 | whole b =>
  intro cs hG he
  obtain ⟨v,e,h1,h2⟩:=he
  refine ⟨v,e,h1,?_⟩
  unfold WholeOk at *
  cases hb:a0K c1.H b with
  | unborn=>simp [hb] at h2
  | dead=>have:=(h.blk b (by simp [hb])).1; simp only [hb,renBlk] at this; simp only [this]
  | box t u=>simp [hb] at h2
  | row t l=>obtain ⟨e1,e2⟩:=h.blk b (by simp [hb]); simp only [hb,renBlk] at h2 e1; simp only [e1,e2]; exact h2
 | row b lo n =>
  intro cs hG he
  obtain ⟨v,e,h1,h2⟩:=he
  refine ⟨v,e,h1,?_⟩
  unfold RowOk at *
  cases hb:a0K c1.H b with
  | unborn=>simp [hb] at h2
  | dead=>have:=(h.blk b (by simp [hb])).1; simp only [hb,renBlk] at this; simp only [this]
  | box t u=>simp [hb] at h2
  | row t l=>obtain ⟨e1,e2⟩:=h.blk b (by simp [hb]); simp only [hb,renBlk] at h2 e1; simp only [e1,e2]; exact h2
 | aview b p lo n =>
  intro cs hG he
  obtain ⟨v,e,h1,h2⟩:=he
  refine ⟨v,e,h1,?_⟩
  unfold AviewOk at *
  cases hb:a0K c1.H b with
  | unborn=>simp [hb] at h2
  | dead=>have:=(h.blk b (by simp [hb])).1; simp only [hb,renBlk] at this; simp only [this]
  | row t u=>simp [hb] at h2
  | box t l=>obtain ⟨e1,e2⟩:=h.blk b (by simp [hb]); simp only [hb,renBlk] at h2 e1; simp only [e1,e2]; exact h2
 | cut b k =>
  intro cs hG he
  obtain ⟨v,e,h1,h2⟩:=he
  refine ⟨v,e,h1,?_⟩
  unfold CutOk at *
  cases hb:a0K c1.H b with
  | unborn=>simp [hb] at h2
  | dead=>have:=(h.blk b (by simp [hb])).1; simp only [hb,renBlk] at this; simp only [this]
  | box t u=>simp [hb] at h2
  | row t l=>obtain ⟨e1,e2⟩:=h.blk b (by simp [hb]); simp only [hb,renBlk] at h2 e1; simp only [e1,e2]; exact h2
 | iface t v ih =>
  intro cs hG he
  obtain ⟨ds,e,h1⟩:=he
  exact ⟨ds,by rw [isAgg_ren]; exact e,ih ds hG h1⟩
 | clo g v ih =>
  intro cs hG he
  obtain ⟨us,e,h1⟩:=he
  exact ⟨us,e,ih us hG h1⟩
 | nils=>intro cs _ he; exact he
 | npt=>intro cs _ he; exact he
 | fn f=>intro cs _ he; exact he
 | tup a=>intro cs _ he; exact he
 | undef=>intro cs _ he; exact he
theorem tup_ren {c1 c2:Cx} {f:Nat→Nat} (h:Ren c1 c2 f):∀ (v:PV) (vs:List Value),((∀ r,c1.G r→c2.G r) ∨ pvNoSl v = true)→TupOk c1 v vs→TupOk c2 (renPV f v) vs:=by
 intro v
 induction v with
 | pair a b iha ihb =>
  intro vs hG he
  obtain ⟨cs,vs',e,h1,h2⟩:=he
  refine ⟨cs,vs',by rw [isAgg_ren]; exact e,cells_ren h _ _ (hG.imp _root_.id fun h=>?_) h1,ihb _ (hG.imp _root_.id fun h=>?_) h2⟩ <;> simp only [pvNoSl,Bool.and_eq_true] at h
  ·
   exact h.1
  ·
   exact h.2
 | val t x=>intro vs hG he; cases t <;> first | exact he | exact he.elim
 | _=>intro vs hG he; exact he.elim
theorem v_ren {c1 c2:Cx} {f:Nat→Nat} (h:Ren c1 c2 f) {v:PV} {u:Value} (hG:(∀ r,c1.G r→c2.G r) ∨ pvNoSl v = true) (hv:VOk c1 v u):VOk c2 (renPV f v) u:=by
 cases v with
 | tup a=>obtain ⟨vs,e,ht⟩:=hv; exact ⟨vs,e,tup_ren h a vs hG ht⟩
 | undef=>trivial
 | _=>obtain ⟨cs,h1,e⟩:=hv; have:=cells_ren h _ cs hG h1; exact ⟨cs,this,e⟩
theorem nosl_tuple:∀ (l:List Sh) (x:ShD l),l.any Sh.hasSl = false→pvNoSl (tuple (a1U l x)) = true:=by
 have hall:∀ (l:List Sh) (x:ShD l),l.any Sh.hasSl = false→∀ v ∈ a1U l x,pvNoSl v = true:=by
  intro l
  induction l with
  | nil=>intro x _ v hv; simp [a1U] at hv
  | cons s l ih =>
   intro x h v hv
   simp only [List.any_cons,Bool.or_eq_false_iff] at h
   cases s with
   | pl t=>simp only [a1U,List.mem_cons] at hv; rcases hv with rfl | hv; exact mk_nosl (.pl t) x.1 h.1; exact ih _ h.2 v hv
   | bp t=>simp only [a1U,List.mem_cons] at hv; rcases hv with rfl | hv; exact mk_nosl (.bp t) x.1 h.1; exact ih _ h.2 v hv
   | pair p q=>simp only [a1U,List.mem_cons] at hv; rcases hv with rfl | hv; exact mk_nosl (.pair p q) x.1 h.1; exact ih _ h.2 v hv
   | iface t s=>simp only [a1U,List.mem_cons] at hv; rcases hv with rfl | hv; exact mk_nosl (.iface t s) x.1 h.1; exact ih _ h.2 v hv
   | clo f s=>simp only [a1U,List.mem_cons] at hv; rcases hv with rfl | hv; exact mk_nosl (.clo f s) x.1 h.1; exact ih _ h.2 v hv
   | _=>simp only [a1U,List.mem_cons] at hv; rcases hv with rfl | hv; rfl; exact ih _ h.2 v hv
 have hfold:∀ (vs:List PV),(∀ v ∈ vs,pvNoSl v = true)→pvNoSl (vs.foldr .pair (.val .nil ())) = true:=by
  intro vs
  induction vs with
  | nil=>intro _; rfl
  | cons v vs ih=>intro h; simp only [List.foldr_cons,pvNoSl,Bool.and_eq_true]; exact ⟨h v (by simp),ih fun u hu=>h u (by simp [hu])⟩
 intro l x h
 have:=hall l x h
 generalize a1U l x = vs at this
 match vs,this with
 | [],_=>rfl
 | [v],h=>exact h v (by simp)
 | v :: u :: r,h=>exact hfold (v :: u :: r) h
theorem newBlks_at (nb:Nat):∀ (B:List Blk) (i:Nat) (H:List Blk) (j:Nat),a0K (putBlks H (newBlks nb i B)) j = if nb + i ≤ j∧j < nb + i + B.length then renBlk (fun k=>nb + k) (a0K B (j - (nb + i))) else a0K H j
 | [],i,H,j=>by simp only [newBlks,putBlks,List.length_nil]; rw [if_neg (by omega)]
 | b :: B,i,H,j=>by
  simp only [newBlks,putBlks]
  rw [newBlks_at nb B (i + 1),blkAt_put]
  simp only [List.length_cons]
  by_cases h1:j = nb + i
  ·
   subst h1
   rw [if_neg (by omega),if_pos rfl,if_pos (by omega),Nat.sub_self]
   rfl
  ·
   by_cases h2:nb + (i + 1) ≤ j∧j < nb + (i + 1) + B.length
   ·
    rw [if_pos h2,if_pos (by omega),show j - (nb + i) = (j - (nb + (i + 1))) + 1 by omega]
    rfl
   ·
    rw [if_neg h2,if_neg h1,if_neg (by omega)]
theorem live_ren (f:Nat→Nat) (b:Blk):live (renBlk f b) = live b:=by cases b <;> rfl
theorem mkHeap_kind:∀ (l:List BSh) (y:BShD l) (i:Nat),i < l.length→∃ b,l[i]? = some b∧∃ x:b.D,a0K (mkHeap l y) i = b.mk x
 | [],_,_,h=>by simp at h
 | b :: l,y,0,_=>⟨b,rfl,y.1,rfl⟩
 | b :: l,y,i + 1,h=>by
  obtain ⟨b',h1,x,h2⟩:=mkHeap_kind l y.2 i (by simpa using h)
  exact ⟨b',by simpa using h1,x,h2⟩
section
variable {P:Program} {base:World} {G0 own0:Nat→Prop} {o:Oper} {a:Act} {c:Cx}
theorem fits_ren (f:Nat→Nat):∀ (v:PV) (t:Ty),fits (renPV f v) t = fits v t:=by
 intro v
 induction v with
 | pair a b iha ihb=>intro t; cases t <;> simp [renPV,fits,iha,ihb]
 | _=>intro t; cases t <;> rfl
theorem law_call (hM:Mem base G0 own0 c) {f:FuncId} {us:List Value} (hex:(execOp a.eval o).run P c.w = (callFunc f us.toArray).run P c.w) {C:Con} (hC:a0X P f C) (hin:C.In.heap = []) {vs:List PV} (ha:All2 (VOk c) vs us) (hlen:vs.length = C.In.slots.length)
  {x:C.In.D} {m:Mt} (hx:C.In.ext vs c.H = some (x,m)) {y:C.Out.D} (hy:C.F x = some y) {nb:Nat} (hn:∀ i,i < C.Out.heap.length→a0K c.H (nb + i) = .unborn) :
  OpRes P base G0 own0 o a c (renPV (fun k=>nb + k) (tuple (a1U C.Out.slots y.1))) ((match C.Out.hasSl with | true=>kill m.lent | false=>[]) ++ newBlks nb 0 (mkHeap C.Out.heap y.2)):=by
 obtain ⟨t1,t2,t3,t4,t5,t6⟩:=Tm_ext hM.blk hx
 obtain ⟨hblk,hargs⟩:=t6 (Glent c m.lent) (fun r h=>h)
 obtain ⟨us',e1,e2,hargs⟩:=hargs _ ha
 have hll:us.length = C.In.slots.length:=by
  rw [← hlen]
  have:∀ (vs:List PV) (us:List Value),All2 (VOk c) vs us→us.length = vs.length:=by
   intro vs
   induction vs with
   | nil=>intro us h; cases us with | nil=>rfl | cons _ _=>exact h.elim
   | cons v vs ih=>intro us h; cases us with | nil=>exact h.elim | cons u us=>simp [ih us h.2]
  exact this vs _ ha
 have e1:us = us':=by
  rw [List.drop_of_length_le (by omega)] at e1
  simpa using e1
 subst e1
 have hσ:∀ i j,m.σ.get i = some j→False:=fun i j h=>by have:=t2 i j h; rw [hin] at this; simp at this
 have hdead:∀ b,a0K (partCx c C.In x m (Glent c m.lent)).H b = .unborn:=fun b=>blkAt_ge _ _ (by show (mkHeap C.In.heap x.2).length ≤ b; rw [mkHeap_len,hin]; simp)
 have hGl:∀ r,Glent c m.lent r→r < c.w.heap.size:=by
  rintro r (h | ⟨b,hb,hl,he⟩)
  ·
   rw [hM.G] at h; exact h.2.1
  ·
   exact (hM.blk b).lt hl he
 have hS:Start (partCx c C.In x m (Glent c m.lent)):=by
  refine ⟨hblk,fun b b' r h=>(by rw [hdead b] at h; cases h),fun r hr=>⟨hGl r hr,fun b h=>(by rw [hdead b] at h; cases h)⟩⟩
 have hcall:=hC x y hy _ _ hS rfl hargs
 have after:∀ v w',(∃ c':Cx,c'.w = w'∧c'.H = mkHeap C.Out.heap y.2∧VOk c' (tuple (a1U C.Out.slots y.1)) v∧Mem c.w (G0of (partCx c C.In x m (Glent c m.lent))) (ownOf (partCx c C.In x m (Glent c m.lent))) c'∧∀ i,i < keepN C.In.heap→c'.ρ i = (partCx c C.In x m (Glent c m.lent)).ρ i) →
   ∃ c2:Cx,c2.w = w'∧Ext c c2∧Mem base G0 own0 c2∧c2.H = putBlks c.H ((match C.Out.hasSl with | true=>kill m.lent | false=>[]) ++ newBlks nb 0 (mkHeap C.Out.heap y.2))∧VOk c2 (renPV (fun k=>nb + k) (tuple (a1U C.Out.slots y.1))) v:=by
  rintro v w' ⟨c',rfl,hH',hv',hM',_⟩
  have hlc:=mkHeap_len C.Out.heap y.2
  obtain ⟨c1,hw1,hH1,hρ1,hE1,hM1,hsame1,hG1⟩:∃ c1:Cx,c1.w = c.w∧c1.H = putBlks c.H (match C.Out.hasSl with | true=>kill m.lent | false=>[])∧c1.ρ = c.ρ∧Ext c c1∧Mem base G0 own0 c1∧(∀ i,i < C.Out.heap.length→a0K c1.H (nb + i) = .unborn) ∧
    (C.Out.hasSl = true→∀ r,Glent c m.lent r→c1.G r):=by
   cases hsl:C.Out.hasSl with
   | false=>exact ⟨c,rfl,rfl,rfl,Ext.refl c,hM,hn,fun h=>by cases h⟩
   | true =>
    have hlive:∀ b ∈ m.lent,live (a0K c.H b) = true:=fun b hb=>(t1 b hb).2
    obtain ⟨c1,h1,h2,h3,h4,h5,h6,h7⟩:=mem_kill hM m.lent hlive
    refine ⟨c1,h1,h2,h3,h4,h5,fun i hi=>?_,fun _=>h6⟩
    rw [h7 _ fun hmem=>by have:=hlive _ hmem; rw [hn i hi] at this; cases this]
    exact hn i hi
  let H2:=putBlks c1.H (newBlks nb 0 (mkHeap C.Out.heap y.2))
  let ρ2:Nat→Value:=fun j=>if nb ≤ j∧j < nb + C.Out.heap.length then c'.ρ (j - nb) else c1.ρ j
  have hH2:∀ j,a0K H2 j = if nb ≤ j∧j < nb + C.Out.heap.length then renBlk (fun k=>nb + k) (a0K (mkHeap C.Out.heap y.2) (j - nb)) else a0K c1.H j:=by
   intro j
   have:=newBlks_at nb (mkHeap C.Out.heap y.2) 0 c1.H j
   simp only [Nat.add_zero,hlc] at this
   exact this
  have hnew:∀ i r,live (a0K c'.H i) = true→blkOf (c'.ρ i) = some r→c.w.heap.size ≤ r:=by
   intro i r hl he
   rcases hM'.own i r hl he with ⟨b,hb,_⟩ | h
   ·
    rw [hdead b] at hb; cases hb
   ·
    exact h
  have hT:Turn base G0 own0 c1 (Cx.next base G0 c'.w ρ2 H2) (fun j=>nb ≤ j∧j < nb + C.Out.heap.length):=by
   refine ⟨hM'.os.trans (by rw [hw1]),hM'.tape.trans (by rw [hw1]),hM'.output.trans (by rw [hw1]),by show c1.w.heap.size ≤ c'.w.heap.size; rw [hw1]; exact hM'.size,fun j hj=>by simp [Cx.next,ρ2,hj],fun j hj=>by simp only [Cx.next]; rw [hH2,if_neg hj],fun r hr _=>?_,fun j hj=>?_,fun j r hj hl he=>?_,fun j j' r hj hj' hl hl' he he'=>?_,rfl⟩
   ·
    show c'.w.heap[r]? = c1.w.heap[r]?
    rw [hw1] at hr ⊢
    refine hM'.frame r hr fun ⟨b,hb,_⟩=>?_
    rw [hdead b] at hb; cases hb
   ·
    unfold BlkLe
    have:=hsame1 (j - nb) (by omega)
    rw [show nb + (j - nb) = j by omega] at this
    simp [this]
   ·
    left
    have hl:live (a0K H2 j) = true:=hl
    have he:blkOf (ρ2 j) = some r:=he
    rw [hH2,if_pos hj,live_ren] at hl
    simp only [ρ2,if_pos hj] at he
    rw [hw1]
    exact hnew (j - nb) r (by rw [hH']; exact hl) he
   ·
    have hl:live (a0K H2 j) = true:=hl
    have he:blkOf (ρ2 j) = some r:=he
    have hl':live (a0K H2 j') = true:=hl'
    have he':blkOf (ρ2 j') = some r:=he'
    rw [hH2,if_pos hj,live_ren] at hl
    rw [hH2,if_pos hj',live_ren] at hl'
    simp only [ρ2,if_pos hj] at he
    simp only [ρ2,if_pos hj'] at he'
    have:=hM'.inj (j - nb) (j' - nb) r (by rw [hH']; exact hl) (by rw [hH']; exact hl') he he'
    omega
  have hE:=hT.ext hM1
  have hren:Ren c' (Cx.next base G0 c'.w ρ2 H2) (fun k=>nb + k):=by
   refine ⟨rfl,fun i hi=>?_⟩
   have hlt:i < C.Out.heap.length:=by
    rcases Nat.lt_or_ge i C.Out.heap.length with h | h
    ·
     exact h
    ·
     exact absurd (blkAt_ge c'.H i (by rw [hH',hlc]; exact h)) hi
   simp only [Cx.next]
   rw [hH2,if_pos ⟨by omega,by omega⟩,show nb + i - nb = i by omega,hH']
   exact ⟨rfl,by simp only [ρ2]; rw [if_pos ⟨by omega,by omega⟩,show nb + i - nb = i by omega]⟩
  have hGG:C.Out.hasSl = true→∀ r,c'.G r→(Cx.next base G0 c'.w ρ2 H2).G r:=by
   intro hsl r hr
   rw [hM'.G] at hr
   obtain ⟨h1,h2,h3⟩:=hr
   have fresh:c.w.heap.size ≤ r→(Cx.next base G0 c'.w ρ2 H2).G r:=by
    intro hge
    refine ⟨.inr (by have:=hM.size; omega),h2,fun j hl he=>?_⟩
    have hl:live (a0K H2 j) = true:=hl
    have he:blkOf (ρ2 j) = some r:=he
    rw [hH2] at hl
    split at hl
    ·
     rename_i hj
     rw [live_ren] at hl
     simp only [ρ2,if_pos hj] at he
     exact h3 (j - nb) (by rw [hH']; exact hl) he
    ·
     rename_i hj
     simp only [ρ2,if_neg hj] at he
     have:=(hM1.blk j).lt hl he
     rw [hw1] at this
     omega
   rcases h1 with (h1 | ⟨b,hb,_⟩) | h1
   ·
    exact (hE.G r (hG1 hsl r h1)).1
   ·
    rw [hdead b] at hb; cases hb
   ·
    exact fresh h1
  have hMem:=hT.mem hM1 fun j hj=>by
   have hb:=hM'.blk (j - nb)
   obtain ⟨b,hbl,xb,hbk⟩:=mkHeap_kind C.Out.heap y.2 (j - nb) (by omega)
   have hbh:C.Out.hasSl = false→b.hasSl = false:=by
    intro hsl
    simp only [Tm.hasSl,Bool.or_eq_false_iff] at hsl
    have:=hsl.2
    rw [List.any_eq_false] at this
    have:=this b (List.mem_of_getElem? hbl)
    simpa using this
   unfold BlkOk at hb ⊢
   simp only [Cx.next]
   rw [hH2,if_pos hj,hbk]
   rw [hH',hbk] at hb
   cases b with
   | box t s =>
    simp only [BSh.mk,renBlk] at hb ⊢
    obtain ⟨r,cs,ty,k1,k2,k3,k4⟩:=hb
    refine ⟨r,cs,ty,by simp only [ρ2,if_pos hj]; exact k1,k2,cells_ren hren _ cs ?_ k3,by rw [fits_ren]; exact k4⟩
    cases hsl:C.Out.hasSl with
    | true=>exact .inl (hGG hsl)
    | false=>exact .inr (mk_nosl s xb (by have:=hbh hsl; simpa [BSh.hasSl] using this))
   | row t =>
    simp only [BSh.mk,renBlk] at hb ⊢
    obtain ⟨hl,e,xs,ho',hx'⟩:=hb
    refine ⟨hl,e,xs,by simp only [ρ2,if_pos hj]; exact ho',EncL_mono (fun z cs hz=>?_) _ xs hx'⟩
    cases hsl:C.Out.hasSl with
    | true=>exact Enc_G (hGG hsl) hz
    | false=>exact Enc_nosl t (by have:=hbh hsl; simpa [BSh.hasSl] using this) z cs hz
  refine ⟨Cx.next base G0 c'.w ρ2 H2,rfl,hE1.trans hE,hMem,by show H2 = _; rw [putBlks_app,← hH1],v_ren hren ?_ hv'⟩
  cases hsl:C.Out.hasSl with
  | true=>exact .inl (hGG hsl)
  | false=>exact .inr (nosl_tuple _ _ (by simp only [Tm.hasSl,Bool.or_eq_false_iff] at hsl; exact hsl.1))
 intro K Q hK
 unfold Oper.wp
 rw [hex]
 rcases hcall with ⟨v,w',hr,hR⟩ | ⟨hr,hR⟩
 ·
  have hr:(callFunc f us.toArray).run P c.w = .ok (.value v) w':=hr
  rw [hr]
  obtain ⟨c2,rfl,g1,g2,g3,g4⟩:=after v w' hR
  exact hK v c2 g1 g2 g3 g4
 ·
  have hr:(callFunc f us.toArray).run P c.w = .ok (.enter f us.toArray) c.w:=hr
  rw [hr]
  refine Calls.mono hR ?_
  rintro e w' ⟨v,rfl,hR⟩
  obtain ⟨c2,rfl,g1,g2,g3,g4⟩:=after v w' hR
  exact hK v c2 g1 g2 g3 g4
end
def FreshS (n:Nat) (v:Value):Prop:=∀ ad l cap,v = .slice (some ad) l cap→l = 0 ∨ n ≤ ad.block
def FreshV (n:Nat) (v:Value):Prop:=FreshS n v∧∀ vs,v = .tuple vs→∀ u ∈ vs.toList,FreshS n u
def ConFresh (P:Program) (f:FuncId) (C:Con):Prop :=
 ∀ x y,C.F x = some y→∀ (c:Cx) (vals:List Value),Start c→c.H = mkHeap C.In.heap x.2→All2 (VOk c) (a1U C.In.slots x.1) vals →
  CallsX P f vals.toArray c.w fun v w'=>(∃ c',c'.w = w'∧c'.H = mkHeap C.Out.heap y.2∧VOk c' (tuple (a1U C.Out.slots y.1)) v∧Mem c.w (G0of c) (ownOf c) c')∧FreshV c.w.heap.size v
theorem enc_fresh {w:World} {G G':Nat→Prop} {n:Nat} {t:Ty} (ht:freshTy t = true) {x:t.D} {cs:List Value} (he:Enc w G t x cs) (hf:∀ u ∈ cs,FreshS n u) (hG:∀ r,G r→n ≤ r→G' r):Enc w G' t x cs:=by
 cases t with
 | sl t =>
  simp only [freshTy,Bool.not_eq_true'] at ht
  obtain ⟨a,c,e,hc,hl,hx⟩:=he
  refine ⟨a,c,e,hc,hl,?_⟩
  rcases hx with hx | ⟨ad,ha,hs,hg,hr⟩
  ·
   exact .inl hx
  ·
   by_cases h0:(show List t.D from x) = []
   ·
    exact .inl h0
   ·
    right
    refine ⟨ad,ha,hs,hG _ hg ?_,fun i y hy=>?_⟩
    ·
     subst e ha
     rcases hf _ (List.mem_singleton_self _) ad _ _ rfl with h | h
     ·
      exact absurd (List.eq_nil_of_length_eq_zero h) h0
     ·
      exact h
    ·
     obtain ⟨ds,h1,h2⟩:=hr i y hy
     exact ⟨ds,Enc_nosl t ht y ds h1,h2⟩
 | _=>exact Enc_nosl _ (by simpa [freshTy] using ht) x cs he
theorem FreshArr_nosl {w:World} {G:Nat→Prop} {n:Nat} {X:Type} {E:X→List Value→Prop} (h:∀ x cs,E x cs→∀ u ∈ cs,FreshS n u):∀ (k:Nat) (x:Arr X k) (cs:List Value),EncArr E k x cs→∀ u ∈ cs,FreshS n u
 | 0,_,cs,he,u,hu=>by simp only [EncArr] at he; subst he; simp at hu
 | k + 1,x,cs,he,u,hu=>by
  obtain ⟨c1,c2,rfl,h1,h2⟩:=he
  rcases List.mem_append.1 hu with hu | hu
  ·
   exact h _ _ h1 u hu
  ·
   exact FreshArr_nosl (w:=w) (G:=G) h k x.2 c2 h2 u hu
theorem FreshS_nosl {w:World} {G:Nat→Prop} {n:Nat}:∀ (t:Ty),t.hasSl = false→∀ {x:t.D} {cs:List Value},Enc w G t x cs→∀ u ∈ cs,FreshS n u:=by
 intro t
 induction t with
 | int k=>intro _ x cs h u hu; simp only [Enc] at h; subst h; simp only [List.mem_singleton] at hu; subst hu; intro ad l cap h; cases h
 | bool=>intro _ x cs h u hu; simp only [Enc] at h; subst h; simp only [List.mem_singleton] at hu; subst hu; intro ad l cap h; cases h
 | str=>intro _ x cs h u hu; obtain ⟨h,_⟩:=h; subst h; simp only [List.mem_singleton] at hu; subst hu; intro ad l cap h; cases h
 | nil=>intro _ x cs h u hu; simp only [Enc] at h; subst h; simp at hu
 | opq=>intro _ x cs h; exact h.elim
 | fnc=>intro _ x cs h u hu; simp only [Enc] at h; subst h; simp only [List.mem_singleton] at hu; subst hu; intro ad l cap h; rcases fnV_eq _ h with h | ⟨f,h⟩ <;> cases h
 | sl t _=>intro h; cases h
 | cons a b iha ihb =>
  intro hs x cs h u hu
  simp only [Ty.hasSl,Bool.or_eq_false_iff] at hs
  obtain ⟨c1,c2,rfl,h1,h2⟩:=h
  rcases List.mem_append.1 hu with hu | hu
  ·
   exact iha hs.1 h1 u hu
  ·
   exact ihb hs.2 h2 u hu
 | arr k t ih =>
  intro hs x cs h u hu
  exact FreshArr_nosl (w:=w) (G:=G) (fun x cs h=>ih hs h) k x cs h u hu
theorem tup_fresh {c1 c2:Cx} {n:Nat} (hw:c2.w = c1.w) (hG:∀ r,c1.G r→n ≤ r→c2.G r):∀ (l:List Sh) (x:ShD l) (vs:List Value),l.all freshSh = true→TupOk c1 ((a1U l x).foldr .pair (.val .nil ())) vs→(∀ u ∈ vs,FreshS n u)→TupOk c2 ((a1U l x).foldr .pair (.val .nil ())) vs
 | [],_,vs,_,h,_=>h
 | .pl t :: l,x,vs,hl,h,hf=>by
  simp only [List.all_cons,Bool.and_eq_true] at hl
  obtain ⟨cs,vs',e,h1,h2⟩:=h
  subst e
  refine ⟨cs,vs',rfl,?_,tup_fresh hw hG l x.2 vs' hl.2 h2 fun u hu=>hf u (List.mem_cons_of_mem _ hu)⟩
  have hu:=hf _ (List.mem_cons_self)
  show Enc c2.w c2.G t x.1 cs
  rw [hw]
  refine enc_fresh hl.1 h1 (fun u hu'=>?_) hG
  cases t with
  | sl t =>
   obtain ⟨a,cp,e,_⟩:=h1
   subst e
   simp only [List.mem_singleton] at hu'
   subst hu'
   exact hu
  | int k=>simp only [a1H,Enc] at h1; subst h1; simp only [List.mem_singleton] at hu'; subst hu'; intro ad l cap h; cases h
  | bool=>simp only [a1H,Enc] at h1; subst h1; simp only [List.mem_singleton] at hu'; subst hu'; intro ad l cap h; cases h
  | str=>obtain ⟨h1,_⟩:=h1; subst h1; simp only [List.mem_singleton] at hu'; subst hu'; intro ad l cap h; cases h
  | opq=>exact h1.elim
  | fnc=>exact FreshS_nosl .fnc rfl h1 u hu'
  | nil=>simp only [a1H,Enc] at h1; subst h1; simp at hu'
  | cons a b=>exact FreshS_nosl (.cons a b) (by simpa [freshSh,freshTy] using hl.1) h1 u hu'
  | arr k t=>exact FreshS_nosl (.arr k t) (by simpa [freshSh,freshTy] using hl.1) h1 u hu'
 | .bp _ :: _,_,_,hl,_,_=>by simp [freshSh] at hl
 | .pair _ _ :: _,_,_,hl,_,_=>by simp [freshSh] at hl
 | .ptr _ _ :: _,_,_,hl,_,_=>by simp [freshSh] at hl
 | .npt :: _,_,_,hl,_,_=>by simp [freshSh] at hl
 | .whole _ :: _,_,_,hl,_,_=>by simp [freshSh] at hl
 | .fn _ :: _,_,_,hl,_,_=>by simp [freshSh] at hl
 | .iface _ _ :: _,_,_,hl,_,_=>by simp [freshSh] at hl
 | .clo _ _ :: _,_,_,hl,_,_=>by simp [freshSh] at hl
 | .dead :: _,_,_,hl,_,_=>by simp [freshSh] at hl
theorem v_fresh {c1 c2:Cx} {n:Nat} (hw:c2.w = c1.w) (hG:∀ r,c1.G r→n ≤ r→c2.G r) (l:List Sh) (x:ShD l) (hl:l.all freshSh = true) {v:Value} (hv:VOk c1 (tuple (a1U l x)) v) (hf:FreshV n v):VOk c2 (tuple (a1U l x)) v:=by
 match l,x,hl,hv with
 | [],_,_,hv=>exact hv
 | [.pl t],x,hl,hv =>
  obtain ⟨cs,h1,e⟩:=hv
  refine ⟨cs,?_,e⟩
  simp only [List.all_cons,Bool.and_eq_true] at hl
  show Enc c2.w c2.G t x.1 cs
  rw [hw]
  refine enc_fresh hl.1 h1 (fun u hu=>?_) hG
  cases t with
  | sl t =>
   obtain ⟨a,cp,e',_⟩:=h1
   subst e'
   simp only [List.mem_singleton] at hu
   subst hu
   have e:v = .slice a _ cp:=e
   subst e
   exact hf.1
  | int k=>exact FreshS_nosl (.int k) rfl h1 u hu
  | bool=>exact FreshS_nosl .bool rfl h1 u hu
  | str=>exact FreshS_nosl .str rfl h1 u hu
  | opq=>exact h1.elim
  | fnc=>exact FreshS_nosl .fnc rfl h1 u hu
  | nil=>exact FreshS_nosl .nil rfl h1 u hu
  | cons a b=>exact FreshS_nosl (.cons a b) (by simpa [freshSh,freshTy] using hl.1) h1 u hu
  | arr k t=>exact FreshS_nosl (.arr k t) (by simpa [freshSh,freshTy] using hl.1) h1 u hu
 | .pl t :: .pl u :: r,x,hl,hv =>
  obtain ⟨vs,e,h⟩:=hv
  exact ⟨vs,e,tup_fresh hw hG (.pl t :: .pl u :: r) x vs hl h fun u hu=>hf.2 _ e u (by simpa using hu)⟩
 | .bp _ :: _,_,hl,_=>simp [freshSh] at hl
 | .pair _ _ :: _,_,hl,_=>simp [freshSh] at hl
 | .ptr _ _ :: _,_,hl,_=>simp [freshSh] at hl
 | .npt :: _,_,hl,_=>simp [freshSh] at hl
 | .whole _ :: _,_,hl,_=>simp [freshSh] at hl
 | .fn _ :: _,_,hl,_=>simp [freshSh] at hl
 | .iface _ _ :: _,_,hl,_=>simp [freshSh] at hl
 | .clo _ _ :: _,_,hl,_=>simp [freshSh] at hl
 | .dead :: _,_,hl,_=>simp [freshSh] at hl
 | .pl _ :: .bp _ :: _,_,hl,_=>simp [freshSh] at hl
 | .pl _ :: .pair _ _ :: _,_,hl,_=>simp [freshSh] at hl
 | .pl _ :: .ptr _ _ :: _,_,hl,_=>simp [freshSh] at hl
 | .pl _ :: .npt :: _,_,hl,_=>simp [freshSh] at hl
 | .pl _ :: .whole _ :: _,_,hl,_=>simp [freshSh] at hl
 | .pl _ :: .fn _ :: _,_,hl,_=>simp [freshSh] at hl
 | .pl _ :: .iface _ _ :: _,_,hl,_=>simp [freshSh] at hl
 | .pl _ :: .clo _ _ :: _,_,hl,_=>simp [freshSh] at hl
 | .pl _ :: .dead :: _,_,hl,_=>simp [freshSh] at hl
section
variable {P:Program} {base:World} {G0 own0:Nat→Prop} {o:Oper} {a:Act} {c:Cx}
theorem law_callFresh (hM:Mem base G0 own0 c) {f:FuncId} {us:List Value} (hex:(execOp a.eval o).run P c.w = (callFunc f us.toArray).run P c.w) {C:Con} (hC:ConFresh P f C) (hin:C.In.heap = []) (hout:C.Out.heap = []) (hsh:C.Out.slots.all freshSh = true)
  {vs:List PV} (ha:All2 (VOk c) vs us) (hlen:vs.length = C.In.slots.length)
  {x:C.In.D} {m:Mt} (hx:C.In.ext vs c.H = some (x,m)) {y:C.Out.D} (hy:C.F x = some y) :
  OpRes P base G0 own0 o a c (tuple (a1U C.Out.slots y.1)) []:=by
 obtain ⟨t1,t2,t3,t4,t5,t6⟩:=Tm_ext hM.blk hx
 obtain ⟨hblk,hargs⟩:=t6 (Glent c m.lent) (fun r h=>h)
 obtain ⟨us',e1,e2,hargs⟩:=hargs _ ha
 have hll:us.length = C.In.slots.length:=by
  rw [← hlen]
  have:∀ (vs:List PV) (us:List Value),All2 (VOk c) vs us→us.length = vs.length:=by
   intro vs
   induction vs with
   | nil=>intro us h; cases us with | nil=>rfl | cons _ _=>exact h.elim
   | cons v vs ih=>intro us h; cases us with | nil=>exact h.elim | cons u us=>simp [ih us h.2]
  exact this vs _ ha
 have e1:us = us':=by
  rw [List.drop_of_length_le (by omega)] at e1
  simpa using e1
 subst e1
 have hdead:∀ b,a0K (partCx c C.In x m (Glent c m.lent)).H b = .unborn:=fun b=>blkAt_ge _ _ (by show (mkHeap C.In.heap x.2).length ≤ b; rw [mkHeap_len,hin]; simp)
 have hGl:∀ r,Glent c m.lent r→r < c.w.heap.size:=by
  rintro r (h | ⟨b,hb,hl,he⟩)
  ·
   rw [hM.G] at h; exact h.2.1
  ·
   exact (hM.blk b).lt hl he
 have hS:Start (partCx c C.In x m (Glent c m.lent)):=by
  refine ⟨hblk,fun b b' r h=>(by rw [hdead b] at h; cases h),fun r hr=>⟨hGl r hr,fun b h=>(by rw [hdead b] at h; cases h)⟩⟩
 have hcall:=hC x y hy _ _ hS rfl hargs
 have after:∀ v w',((∃ c':Cx,c'.w = w'∧c'.H = mkHeap C.Out.heap y.2∧VOk c' (tuple (a1U C.Out.slots y.1)) v∧Mem c.w (G0of (partCx c C.In x m (Glent c m.lent))) (ownOf (partCx c C.In x m (Glent c m.lent))) c')∧FreshV c.w.heap.size v) →
   ∃ c2:Cx,c2.w = w'∧Ext c c2∧Mem base G0 own0 c2∧c2.H = putBlks c.H []∧VOk c2 (tuple (a1U C.Out.slots y.1)) v:=by
  rintro v w' ⟨⟨c',rfl,hH',hv',hM'⟩,hfr⟩
  have hT:Turn base G0 own0 c (Cx.next base G0 c'.w c.ρ c.H) (fun _=>False):=by
   refine ⟨hM'.os,hM'.tape,hM'.output,hM'.size,fun _ _=>rfl,fun _ _=>rfl,fun r hr _=>?_,fun _ h=>h.elim,fun _ _ h=>h.elim,fun _ _ _ h=>h.elim,rfl⟩
   refine hM'.frame r hr fun ⟨b,hb,_⟩=>?_
   rw [hdead b] at hb; cases hb
  refine ⟨Cx.next base G0 c'.w c.ρ c.H,rfl,hT.ext hM,hT.mem hM fun _ h=>h.elim,rfl,v_fresh (c1:=c') (c2:=Cx.next base G0 c'.w c.ρ c.H) rfl (fun r hr hge=>?_) _ _ hsh hv' hfr⟩
  rw [hM'.G] at hr
  refine ⟨.inr (by have:=hM.size; omega),hr.2.1,fun j hl he=>?_⟩
  have hl:live (a0K c.H j) = true:=hl
  have he:blkOf (c.ρ j) = some r:=he
  have:=(hM.blk j).lt hl he
  omega
 intro K Q hK
 unfold Oper.wp
 rw [hex]
 rcases hcall with ⟨v,w',hr,hR⟩ | ⟨hr,hR⟩
 ·
  have hr:(callFunc f us.toArray).run P c.w = .ok (.value v) w':=hr
  rw [hr]
  obtain ⟨c2,rfl,g1,g2,g3,g4⟩:=after v w' hR
  exact hK v c2 g1 g2 g3 g4
 ·
  have hr:(callFunc f us.toArray).run P c.w = .ok (.enter f us.toArray) c.w:=hr
  rw [hr]
  refine Calls.mono hR ?_
  rintro e w' ⟨v,rfl,hR⟩
  obtain ⟨c2,rfl,g1,g2,g3,g4⟩:=after v w' hR
  exact hK v c2 g1 g2 g3 g4
end
end Sym

/- What an operation reads of the heap: the blocks that its operands name. -/
namespace Sym
open Go
def Ag (H H':List Blk) (l:List Nat):Prop:=∀ b,b ∈ l→a0K H' b = a0K H b
theorem Ag.left {H H':List Blk} {l r:List Nat} (h:Ag H H' (l ++ r)):Ag H H' l:=fun b hb=>h b (by simp [hb])
theorem Ag.right {H H':List Blk} {l r:List Nat} (h:Ag H H' (l ++ r)):Ag H H' r:=fun b hb=>h b (by simp [hb])
theorem Ag.one {H H':List Blk} {b:Nat} {r:List Nat} (h:Ag H H' (b :: r)):a0K H' b = a0K H b:=h b (by simp)
theorem toVal_ag {H H':List Blk}:∀ (t:Ty) (v:PV),Ag H H' (blks v)→toVal H' t v = toVal H t v:=by
 intro t
 induction t with
 | cons a b iha ihb =>
  intro v h
  cases v with
  | pair p q=>simp only [toVal]; rw [iha p (h.left),ihb q (h.right)]
  | _=>rfl
 | sl t _ =>
  intro v h
  cases v with
  | whole b=>simp only [toVal]; rw [h.one]
  | row b lo n=>simp only [toVal]; rw [h.one]
  | aview b p lo n=>simp only [toVal]; rw [h.one]
  | _=>rfl
 | _=>intro v h; cases v <;> rfl
theorem toVal_lent_sub {H:List Blk}:∀ (t:Ty) (v:PV) (x:t.D) (l:List Nat),toVal H t v = some (x,l)→∀ b ∈ l,b ∈ blks v:=by
 intro t
 have cv:∀ (t u:Ty) (y:u.D) (x:t.D) (l:List Nat),(match Ty.cast u t y with | some z=>some (z,([]:List Nat)) | none=>none) = some (x,l)→l = []:=by
  intro t u y x l h
  split at h
  ·
   simp only [Option.some.injEq,Prod.mk.injEq] at h; exact h.2.symm
  ·
   cases h
 induction t with
 | cons a b iha ihb =>
  intro v x l h
  cases v with
  | pair p q =>
   simp only [toVal] at h
   split at h
   ·
    rename_i y z hy hz
    have h:=Option.some.inj h
    obtain ⟨_,rfl⟩:=Prod.mk.inj h
    intro b hb
    simp only [List.mem_append,blks] at hb ⊢
    exact hb.imp (iha p y.1 y.2 hy b) (ihb q z.1 z.2 hz b)
   ·
    cases h
  | val u y=>simp only [toVal] at h; rw [cv _ _ _ _ _ h]; simp
  | _=>simp [toVal] at h
 | sl t _ =>
  intro v x l h
  cases v with
  | val u y=>simp only [toVal] at h; rw [cv _ _ _ _ _ h]; simp
  | nils=>simp only [toVal,Option.some.injEq,Prod.mk.injEq] at h; obtain ⟨_,rfl⟩:=h; simp
  | whole b =>
   simp only [toVal] at h
   split at h
   ·
    split at h
    ·
     have h:=Option.some.inj h; obtain ⟨_,rfl⟩:=Prod.mk.inj h; simp [blks]
    ·
     cases h
   ·
    cases h
  | row b lo n =>
   simp only [toVal] at h
   split at h
   ·
    split at h
    ·
     have h:=Option.some.inj h; obtain ⟨_,rfl⟩:=Prod.mk.inj h; simp [blks]
    ·
     cases h
   ·
    cases h
  | aview b p lo n =>
   simp only [toVal] at h
   split at h
   ·
    split at h
    ·
     split at h
     ·
      have h:=Option.some.inj h; obtain ⟨_,rfl⟩:=Prod.mk.inj h; simp [blks]
     ·
      cases h
    ·
     cases h
   ·
    cases h
  | _=>simp [toVal] at h
 | _ =>
  intro v x l h
  cases v with
  | val u y=>simp only [toVal] at h; rw [cv _ _ _ _ _ h]; simp
  | _=>first
   | (simp [toVal] at h; done)
   | (simp only [toVal] at h; obtain ⟨_,rfl⟩:=Prod.mk.inj (Option.some.inj h); simp)
theorem lenPV_ag {H H':List Blk} (v:PV) (h:Ag H H' (blks v)):lenPV H' v = lenPV H v:=by
 cases v with
 | whole b=>simp only [lenPV]; rw [h.one]
 | row b lo n=>simp only [lenPV]; rw [h.one]
 | aview b p lo n=>simp only [lenPV]; rw [h.one]
 | val t x=>cases t <;> rfl
 | _=>rfl
theorem ptrIs_ag {H H':List Blk} {b:Nat} (h:a0K H' b = a0K H b) (p:List Step) (t:Ty):ptrIs H' b p t = ptrIs H b p t:=by
 unfold ptrIs; rw [h]
theorem fillRow_ag {H H':List Blk} (t:Ty):∀ (r:List (Nat × PV)) (l:List t.D),(∀ p ∈ r,Ag H H' (blks p.2))→fillRow H' t l r = fillRow H t l r
 | [],_,_=>rfl
 | (i,u) :: r,l,h=>by
  simp only [fillRow]
  rw [toVal_ag t u (h (i,u) (by simp))]
  split
  ·
   split
   ·
    rename_i x b _
    rw [fillRow_ag t r (setAt l i x) fun p hp=>h p (by simp [hp])]
   ·
    rfl
  ·
   rfl
theorem fillArr_ag {H H':List Blk} (t:Ty) {n:Nat}:∀ (r:List (Nat × PV)) (l:Arr t.D n),(∀ p ∈ r,Ag H H' (blks p.2))→fillArr H' t n l r = fillArr H t n l r
 | [],_,_=>rfl
 | (i,u) :: r,l,h=>by
  simp only [fillArr]
  rw [toVal_ag t u (h (i,u) (by simp))]
  split
  ·
   split
   ·
    rename_i x b _
    rw [fillArr_ag t r (Arr.upd n l i x) fun p hp=>h p (by simp [hp])]
   ·
    rfl
  ·
   rfl
theorem zip_ag {H H':List Blk}:∀ (is:List Nat) (vs:List PV),Ag H H' (blksL vs)→∀ p ∈ zipNat is vs,Ag H H' (blks p.2)
 | [],_,_,p,hp=>by simp [zipNat] at hp
 | _ :: _,[],_,p,hp=>by simp [zipNat] at hp
 | i :: is,v :: vs,h,p,hp=>by
  simp only [zipNat,List.mem_cons] at hp
  rcases hp with rfl | hp
  ·
   exact h.left
  ·
   exact zip_ag is vs h.right p hp
theorem deep_mem {H:List Blk} {c:Nat}:∀ {l:List Nat},c ∈ deep H l ↔ ∃ b ∈ l,∃ t v,a0K H b = .box t v∧c ∈ blks v
 | []=>by simp [deep]
 | b :: l=>by
  simp only [deep,List.mem_append,deep_mem (l:=l),List.mem_cons,exists_eq_or_imp]
  refine or_congr ?_ Iff.rfl
  cases h:a0K H b with
  | box t v=>exact ⟨fun h'=>⟨t,v,rfl,h'⟩,fun ⟨_,_,e,h'⟩=>by injection e with e1 e2; subst e1; subst e2; exact h'⟩
  | _=>simp
theorem rdC_sub {H:List Blk} {l l':List Nat} (hs:∀ b,b ∈ l→b ∈ l'):∀ b,b ∈ rdC H l→b ∈ rdC H l':=by
 intro b hb
 simp only [rdC,List.mem_append,deep_mem] at hb ⊢
 rcases hb with h | ⟨c,h,h'⟩
 ·
  exact .inl (hs b h)
 ·
  exact .inr ⟨c,hs c h,h'⟩
theorem Ag.sub {H H':List Blk} {l l':List Nat} (h:Ag H H' (rdC H l')) (hs:∀ b,b ∈ l→b ∈ l'):Ag H H' (rdC H l):=fun b hb=>h b (rdC_sub hs b hb)
theorem Ag.flat {H H':List Blk} {l:List Nat} (h:Ag H H' (rdC H l)):Ag H H' l:=fun b hb=>h b (by simp [rdC,hb])
theorem getPath_blks:∀ (v:PV) (p:List Step) (y:PV),getPath v p = some y→∀ b ∈ blks y,b ∈ blks v:=by
 intro v
 have gv:∀ (t:Ty) (x:t.D) (p:List Step) (y:PV),getVal t x p = some y→∃ u z,y = .val u z:=by
  intro t
  induction t with
  | cons a b iha ihb =>
   intro x p y h
   match p,h with
   | [],h=>exact ⟨_,_,(Option.some.inj h).symm⟩
   | .fld 0 :: p,h=>exact iha x.1 p y h
   | .fld (j + 1) :: p,h=>exact ihb x.2 (.fld j :: p) y h
   | .idx i :: p,h=>simp [getVal] at h
  | arr n t ih =>
   intro x p y h
   match p,h with
   | [],h=>exact ⟨_,_,(Option.some.inj h).symm⟩
   | .idx i :: p,h =>
    simp only [getVal] at h
    first | exact ih _ p y h | (split at h <;> first | exact ih _ p y h | cases h)
   | .fld j :: p,h=>simp [getVal] at h
  | _ =>
   intro x p y h
   match p,h with
   | [],h=>exact ⟨_,_,(Option.some.inj h).symm⟩
   | a :: p,h=>cases a <;> simp [getVal] at h
 induction v with
 | pair a c iha ihc =>
  intro p y h b hb
  match p,h with
  | [],h=>have:=Option.some.inj h; subst this; exact hb
  | .fld 0 :: p,h=>simp only [blks,List.mem_append]; exact .inl (iha p y h b hb)
  | .fld (j + 1) :: p,h=>simp only [blks,List.mem_append]; exact .inr (ihc (.fld j :: p) y h b hb)
  | .idx i :: p,h=>simp [getPath] at h
 | val t x =>
  intro p y h b hb
  match p,h with
  | [],h=>have:=Option.some.inj h; subst this; exact hb
  | a :: p,h =>
   have h:getVal t x (a :: p) = some y:=by
    cases a with
    | fld j=>cases j <;> exact h
    | idx i=>exact h
   obtain ⟨u,z,rfl⟩:=gv t x _ y h
   simp [blks] at hb
 | _ =>
  intro p y h b hb
  cases p with
  | nil=>have:=Option.some.inj h; subst this; exact hb
  | cons a p=>simp [getPath] at h
theorem peek_ag {H H':List Blk} {t:Ty} {b:Nat} {p:List Step} (h:Ag H H' (rdC H [b])):peek H' t b p = peek H t b p:=by
 have h0:=h b (by simp [rdC])
 unfold peek
 rw [h0]
 cases hb:a0K H b with
 | box s v =>
  simp only
  cases hg:getPath v p with
  | none=>rfl
  | some y =>
   simp only
   rw [toVal_ag t y fun c hc=>h c (by simp only [rdC,List.mem_append,deep_mem]; exact .inr ⟨b,by simp,s,v,hb,getPath_blks v p y hg c hc⟩)]
 | _=>rfl
theorem peek_lent {H:List Blk} {t:Ty} {b:Nat} {p:List Step} {x:t.D} {l:List Nat} (h:peek H t b p = some (x,l)):∀ c ∈ l,c ∈ rdC H [b]:=by
 unfold peek at h
 cases hb:a0K H b with
 | box s v =>
  simp only [hb] at h
  split at h
  ·
   rename_i y hg
   split at h
   ·
    rename_i z l' hz
    have h:=Option.some.inj h
    obtain ⟨_,rfl⟩:=Prod.mk.inj h
    intro c hc
    simp only [List.mem_cons] at hc
    rcases hc with rfl | hc
    ·
     simp [rdC]
    ·
     simp only [rdC,List.mem_append,deep_mem]
     exact .inr ⟨b,by simp,s,v,hb,getPath_blks v p y hg c (toVal_lent_sub t y z l' hz c hc)⟩
   ·
    cases h
  ·
   cases h
 | _=>simp [hb] at h
theorem shext_ag {H H':List Blk}:∀ (s:Sh) (v:PV) (m:Mt),Ag H H' (rdC H (blks v))→s.ext H' v m = s.ext H v m:=by
 intro s
 induction s with
 | pl t=>intro v m h; simp only [Sh.ext]; rw [toVal_ag t v h.flat]
 | bp t =>
  intro v m h
  cases v with
  | ptr b p=>simp only [Sh.ext]; rw [peek_ag h]
  | _=>rfl
 | pair a b iha ihb =>
  intro v m h
  cases v with
  | pair p q =>
   simp only [Sh.ext]
   rw [iha p m (h.sub fun b hb=>by simp [blks,hb])]
   split
   ·
    rename_i x m1 _; rw [ihb q m1 (h.sub fun b hb=>by simp [blks,hb])]
   ·
    rfl
  | _=>rfl
 | iface t s ih =>
  intro v m h
  cases v with
  | iface u w=>simp only [Sh.ext]; rw [ih w m h]
  | _=>rfl
 | clo f s ih =>
  intro v m h
  cases v with
  | clo g w=>simp only [Sh.ext]; rw [ih w m h]
  | _=>rfl
 | _=>intro v m h; cases v <;> rfl
theorem extSlots_ag {H H':List Blk}:∀ (l:List Sh) (vs:List PV) (m:Mt),Ag H H' (rdC H (blksL vs))→extSlots H' l vs m = extSlots H l vs m
 | [],_,_,_=>rfl
 | _ :: _,[],_,_=>rfl
 | s :: l,v :: vs,m,h=>by
  simp only [extSlots]
  have:s.ext' H' v m = s.ext' H v m:=by
   cases s <;> first | rfl | exact shext_ag _ v m (h.sub fun b hb=>by simp [blksL,hb])
  rw [this]
  split
  ·
   rename_i x m1 _; rw [extSlots_ag l vs m1 (h.sub fun b hb=>by simp [blksL,hb])]
  ·
   rfl
theorem lent_sub {H:List Blk}:∀ (s:Sh) (v:PV) (m:Mt) (x:s.D) (m':Mt),s.ext H v m = some (x,m')→∀ b ∈ m'.lent,b ∈ m.lent ∨ b ∈ rdC H (blks v):=by
 intro s
 induction s with
 | pl t =>
  intro v m x m' h
  simp only [Sh.ext] at h
  split at h
  ·
   rename_i y l hy
   have h:=Option.some.inj h
   obtain ⟨_,rfl⟩:=Prod.mk.inj h
   intro b hb
   simp only [List.mem_append] at hb
   exact hb.symm.imp id fun h=>by simp [rdC,toVal_lent_sub t v y l hy b h]
  ·
   cases h
 | bp t =>
  intro v m x m' h
  cases v with
  | bptr u y =>
   simp only [Sh.ext] at h
   split at h
   ·
    have h:=Option.some.inj h; obtain ⟨_,rfl⟩:=Prod.mk.inj h; intro b hb; exact .inl hb
   ·
    cases h
  | ptr b0 p =>
   simp only [Sh.ext] at h
   split at h
   ·
    rename_i y l hy
    have h:=Option.some.inj h; obtain ⟨_,rfl⟩:=Prod.mk.inj h
    intro b hb
    simp only [List.mem_append] at hb
    exact hb.symm.imp id fun h=>peek_lent hy b h
   ·
    cases h
  | _=>simp [Sh.ext] at h
 | pair a c iha ihb =>
  intro v m x m' h
  cases v with
  | pair p q =>
   simp only [Sh.ext] at h
   split at h
   ·
    rename_i y m1 hy
    split at h
    ·
     rename_i z m2 hz
     have h:=Option.some.inj h
     obtain ⟨_,rfl⟩:=Prod.mk.inj h
     intro b hb
     rcases ihb q m1 z m2 hz b hb with h | h
     ·
      exact (iha p m y m1 hy b h).imp id fun h=>rdC_sub (fun b hb=>by simp [blks,hb]) b h
     ·
      exact .inr (rdC_sub (fun b hb=>by simp [blks,hb]) b h)
    ·
     cases h
   ·
    cases h
  | _=>simp [Sh.ext] at h
 | ptr b0 p =>
  intro v m x m' h
  cases v with
  | ptr c q =>
   simp only [Sh.ext] at h
   split at h
   ·
    split at h
    ·
     have h:=Option.some.inj h; obtain ⟨_,rfl⟩:=Prod.mk.inj h; intro b hb; exact .inl hb
    ·
     cases h
   ·
    cases h
  | _=>simp [Sh.ext] at h
 | npt =>
  intro v m x m' h
  cases v with
  | npt=>simp only [Sh.ext] at h; have h:=Option.some.inj h; obtain ⟨_,rfl⟩:=Prod.mk.inj h; intro b hb; exact .inl hb
  | _=>simp [Sh.ext] at h
 | whole b0 =>
  intro v m x m' h
  cases v with
  | whole c =>
   simp only [Sh.ext] at h
   split at h
   ·
    have h:=Option.some.inj h; obtain ⟨_,rfl⟩:=Prod.mk.inj h; intro b hb; exact .inl hb
   ·
    cases h
  | _=>simp [Sh.ext] at h
 | fn f =>
  intro v m x m' h
  cases v with
  | fn g =>
   simp only [Sh.ext] at h
   split at h
   ·
    have h:=Option.some.inj h; obtain ⟨_,rfl⟩:=Prod.mk.inj h; intro b hb; exact .inl hb
   ·
    cases h
  | _=>simp [Sh.ext] at h
 | iface t s ih =>
  intro v m x m' h
  cases v with
  | iface u w =>
   simp only [Sh.ext] at h
   split at h
   ·
    exact ih w m x m' h
   ·
    cases h
  | _=>simp [Sh.ext] at h
 | clo f s ih =>
  intro v m x m' h
  cases v with
  | clo g w =>
   simp only [Sh.ext] at h
   split at h
   ·
    exact ih w m x m' h
   ·
    cases h
  | _=>simp [Sh.ext] at h
 | dead=>intro v m x m' h; cases v <;> simp [Sh.ext] at h
theorem slots_lent_sub {H:List Blk}:∀ (l:List Sh) (vs:List PV) (m:Mt) (x:ShD l) (m':Mt),extSlots H l vs m = some (x,m')→∀ b ∈ m'.lent,b ∈ m.lent ∨ b ∈ rdC H (blksL vs)
 | [],vs,m,x,m',h,b,hb=>by
  simp only [extSlots,Option.some.injEq,Prod.mk.injEq] at h
  obtain ⟨_,rfl⟩:=h
  exact .inl hb
 | _ :: _,[],_,_,_,h,_,_=>by simp [extSlots] at h
 | s :: l,v :: vs,m,x,m',h,b,hb=>by
  simp only [extSlots] at h
  split at h
  ·
   rename_i y m1 hy
   split at h
   ·
    rename_i z m2 hz
    have h:=Option.some.inj h
    obtain ⟨_,rfl⟩:=Prod.mk.inj h
    rcases slots_lent_sub l vs m1 z m2 hz b hb with h1 | h1
    ·
     have:b ∈ m.lent ∨ b ∈ rdC H (blks v):=by
      cases s with
      | dead=>simp only [Sh.ext',Option.some.injEq,Prod.mk.injEq] at hy; obtain ⟨_,rfl⟩:=hy; exact .inl h1
      | _=>exact lent_sub _ v m y m1 hy b h1
     exact this.imp id fun h=>rdC_sub (fun b hb=>by simp [blksL,hb]) b h
    ·
     exact .inr (rdC_sub (fun b hb=>by simp [blksL,hb]) b h1)
   ·
    cases h
  ·
   cases h
theorem tmext_ag {H H':List Blk} {τ:Tm} (hin:τ.heap = []) (vs:List PV) (h:Ag H H' (rdC H (blksL vs))):τ.ext vs H' = τ.ext vs H:=by
 obtain ⟨ss,hs⟩:=τ
 simp only at hin
 subst hin
 unfold Tm.ext Tm.extF
 simp only
 rw [extSlots_ag ss vs _ h]
 split
 ·
  rename_i x m1 hx
  simp only [extHeap]
  have:m1.okb H' 0 = m1.okb H 0:=by
   unfold Mt.okb
   congr 1
   have:∀ b ∈ m1.lent,a0K H' b = a0K H b:=fun b hb=>h b ((slots_lent_sub ss vs _ x m1 hx b hb).resolve_left (by simp))
   generalize m1.lent = l at this
   induction l with
   | nil=>rfl
   | cons b l ih=>simp only [List.all_cons]; rw [this b (by simp),ih fun c hc=>this c (by simp [hc])]
  simp only [List.length_nil]
  rw [this]
 ·
  rfl
end Sym

/- Calls by contract whose arguments point to blocks of the caller's own. -/
namespace Sym
open Go
theorem toVal_at {H H':List Blk}:∀ (t:Ty) (v:PV) (x:t.D) (l:List Nat),toVal H t v = some (x,l)→(∀ b ∈ l,a0K H' b = a0K H b)→toVal H' t v = some (x,l):=by
 intro t
 induction t with
 | cons a b iha ihb =>
  intro v x l h hl
  cases v with
  | pair p q =>
   simp only [toVal] at h ⊢
   split at h
   ·
    rename_i y z hy hz
    have h:=Option.some.inj h
    obtain ⟨rfl,rfl⟩:=Prod.mk.inj h
    rw [iha p y.1 y.2 hy fun b hb=>hl b (by simp [hb]),ihb q z.1 z.2 hz fun b hb=>hl b (by simp [hb])]
   ·
    cases h
  | _=>exact h
 | sl t _ =>
  intro v x l h hl
  cases v with
  | whole b =>
   have hb:l = [b]:=by
    simp only [toVal] at h
    split at h
    ·
     split at h
     ·
      have h:=Option.some.inj h; exact (Prod.mk.inj h).2.symm
     ·
      cases h
    ·
     cases h
   have:=hl b (by rw [hb]; simp)
   simp only [toVal] at h ⊢
   rw [this]; exact h
  | row b lo n =>
   have hb:l = [b]:=by
    simp only [toVal] at h
    split at h
    ·
     split at h
     ·
      have h:=Option.some.inj h; exact (Prod.mk.inj h).2.symm
     ·
      cases h
    ·
     cases h
   have:=hl b (by rw [hb]; simp)
   simp only [toVal] at h ⊢
   rw [this]; exact h
  | aview b p lo n =>
   have hb:l = [b]:=by
    simp only [toVal] at h
    split at h
    ·
     split at h
     ·
      split at h
      ·
       have h:=Option.some.inj h; exact (Prod.mk.inj h).2.symm
      ·
       cases h
     ·
      cases h
    ·
     cases h
   have:=hl b (by rw [hb]; simp)
   simp only [toVal] at h ⊢
   rw [this]; exact h
  | _=>exact h
 | _=>intro v x l h hl; cases v <;> exact h
theorem shext_le {H:List Blk}:∀ (s:Sh) (v:PV) (m m':Mt) (x:s.D),s.ext H v m = some (x,m')→∀ b ∈ m.lent,b ∈ m'.lent:=by
 intro s
 induction s with
 | pl t =>
  intro v m m' x h b hb
  simp only [Sh.ext] at h
  split at h
  ·
   have h:=Option.some.inj h; obtain ⟨_,rfl⟩:=Prod.mk.inj h; simp [hb]
  ·
   cases h
 | bp t =>
  intro v m m' x h b hb
  cases v with
  | bptr u y =>
   simp only [Sh.ext] at h
   split at h
   ·
    have h:=Option.some.inj h; obtain ⟨_,rfl⟩:=Prod.mk.inj h; exact hb
   ·
    cases h
  | ptr b0 p =>
   simp only [Sh.ext] at h
   split at h
   ·
    have h:=Option.some.inj h; obtain ⟨_,rfl⟩:=Prod.mk.inj h; simp [hb]
   ·
    cases h
  | _=>simp [Sh.ext] at h
 | pair a c iha ihc =>
  intro v m m' x h b hb
  cases v with
  | pair p q =>
   simp only [Sh.ext] at h
   split at h
   ·
    rename_i y m1 hy
    split at h
    ·
     rename_i z m2 hz
     have h:=Option.some.inj h; obtain ⟨_,rfl⟩:=Prod.mk.inj h
     exact ihc q m1 m2 z hz b (iha p m m1 y hy b hb)
    ·
     cases h
   ·
    cases h
  | _=>simp [Sh.ext] at h
 | ptr b0 p =>
  intro v m m' x h b hb
  cases v with
  | ptr c q =>
   simp only [Sh.ext] at h
   split at h
   ·
    split at h
    ·
     have h:=Option.some.inj h; obtain ⟨_,rfl⟩:=Prod.mk.inj h; exact hb
    ·
     cases h
   ·
    cases h
  | _=>simp [Sh.ext] at h
 | npt =>
  intro v m m' x h b hb
  cases v with
  | npt=>simp only [Sh.ext] at h; have h:=Option.some.inj h; obtain ⟨_,rfl⟩:=Prod.mk.inj h; exact hb
  | _=>simp [Sh.ext] at h
 | whole b0 =>
  intro v m m' x h b hb
  cases v with
  | whole c =>
   simp only [Sh.ext] at h
   split at h
   ·
    have h:=Option.some.inj h; obtain ⟨_,rfl⟩:=Prod.mk.inj h; exact hb
   ·
    cases h
  | _=>simp [Sh.ext] at h
 | fn f =>
  intro v m m' x h b hb
  cases v with
  | fn g =>
   simp only [Sh.ext] at h
   split at h
   ·
    have h:=Option.some.inj h; obtain ⟨_,rfl⟩:=Prod.mk.inj h; exact hb
   ·
    cases h
  | _=>simp [Sh.ext] at h
 | iface t s ih =>
  intro v m m' x h b hb
  cases v with
  | iface u w =>
   simp only [Sh.ext] at h
   split at h
   ·
    exact ih w m m' x h b hb
   ·
    cases h
  | _=>simp [Sh.ext] at h
 | clo f s ih =>
  intro v m m' x h b hb
  cases v with
  | clo g w =>
   simp only [Sh.ext] at h
   split at h
   ·
    exact ih w m m' x h b hb
   ·
    cases h
  | _=>simp [Sh.ext] at h
 | dead=>intro v m m' x h; cases v <;> simp [Sh.ext] at h
theorem peek_at {H H':List Blk} {t:Ty} {b:Nat} {p:List Step} {x:t.D} {l:List Nat} (h:peek H t b p = some (x,l)) (hl:∀ b ∈ l,a0K H' b = a0K H b):peek H' t b p = some (x,l):=by
 unfold peek at h ⊢
 cases hb:a0K H b with
 | box s v =>
  simp only [hb] at h
  split at h
  ·
   rename_i y hg
   split at h
   ·
    rename_i z l' hz
    have h:=Option.some.inj h
    obtain ⟨rfl,rfl⟩:=Prod.mk.inj h
    rw [hl b (by simp),hb]
    simp only [hg]
    rw [toVal_at t y z l' hz fun c hc=>hl c (by simp [hc])]
   ·
    cases h
  ·
   cases h
 | _=>simp [hb] at h
theorem shext_at {H H':List Blk}:∀ (s:Sh) (v:PV) (m m':Mt) (x:s.D),s.ext H v m = some (x,m')→(∀ b ∈ m'.lent,a0K H' b = a0K H b)→s.ext H' v m = some (x,m'):=by
 intro s
 induction s with
 | pl t =>
  intro v m m' x h hl
  simp only [Sh.ext] at h ⊢
  split at h
  ·
   rename_i y l hy
   have h:=Option.some.inj h; obtain ⟨rfl,rfl⟩:=Prod.mk.inj h
   rw [toVal_at t v y l hy fun b hb=>hl b (by simp [hb])]
  ·
   cases h
 | bp t =>
  intro v m m' x h hl
  cases v with
  | ptr b p =>
   simp only [Sh.ext] at h ⊢
   split at h
   ·
    rename_i y l hy
    have h:=Option.some.inj h; obtain ⟨rfl,rfl⟩:=Prod.mk.inj h
    rw [peek_at hy fun b hb=>hl b (by simp [hb])]
   ·
    cases h
  | _=>exact h
 | pair a c iha ihc =>
  intro v m m' x h hl
  cases v with
  | pair p q =>
   simp only [Sh.ext] at h ⊢
   split at h
   ·
    rename_i y m1 hy
    split at h
    ·
     rename_i z m2 hz
     have h:=Option.some.inj h; obtain ⟨rfl,rfl⟩:=Prod.mk.inj h
     rw [iha p m m1 y hy fun b hb=>hl b (shext_le c q m1 m2 z hz b hb)]
     simp only
     rw [ihc q m1 m2 z hz hl]
    ·
     cases h
   ·
    cases h
  | _=>exact h
 | iface t s ih =>
  intro v m m' x h hl
  cases v with
  | iface u w =>
   simp only [Sh.ext] at h ⊢
   split at h
   ·
    rename_i hb; exact ih w m m' x h hl
   ·
    cases h
  | _=>exact h
 | clo f s ih =>
  intro v m m' x h hl
  cases v with
  | clo g w =>
   simp only [Sh.ext] at h ⊢
   split at h
   ·
    rename_i hb; exact ih w m m' x h hl
   ·
    cases h
  | _=>exact h
 | _=>intro v m m' x h hl; cases v <;> exact h
theorem slots_le {H:List Blk}:∀ (l:List Sh) (vs:List PV) (m m':Mt) (x:ShD l),extSlots H l vs m = some (x,m')→∀ b ∈ m.lent,b ∈ m'.lent
 | [],_,m,m',x,h,b,hb=>by
  simp only [extSlots,Option.some.injEq,Prod.mk.injEq] at h
  obtain ⟨_,rfl⟩:=h; exact hb
 | _ :: _,[],_,_,_,h,_,_=>by simp [extSlots] at h
 | s :: l,v :: vs,m,m',x,h,b,hb=>by
  simp only [extSlots] at h
  split at h
  ·
   rename_i y m1 hy
   split at h
   ·
    rename_i z m2 hz
    have h:=Option.some.inj h; obtain ⟨_,rfl⟩:=Prod.mk.inj h
    refine slots_le l vs m1 m2 z hz b ?_
    cases s with
    | dead=>simp only [Sh.ext',Option.some.injEq,Prod.mk.injEq] at hy; obtain ⟨_,rfl⟩:=hy; exact hb
    | _=>exact shext_le _ v m m1 y hy b hb
   ·
    cases h
  ·
   cases h
theorem slots_at {H H':List Blk}:∀ (l:List Sh) (vs:List PV) (m m':Mt) (x:ShD l),extSlots H l vs m = some (x,m')→(∀ b ∈ m'.lent,a0K H' b = a0K H b)→extSlots H' l vs m = some (x,m')
 | [],_,_,_,_,h,_=>h
 | _ :: _,[],_,_,_,h,_=>by simp [extSlots] at h
 | s :: l,v :: vs,m,m',x,h,hl=>by
  simp only [extSlots] at h ⊢
  split at h
  ·
   rename_i y m1 hy
   split at h
   ·
    rename_i z m2 hz
    have h:=Option.some.inj h; obtain ⟨rfl,rfl⟩:=Prod.mk.inj h
    have:s.ext' H' v m = some (y,m1):=by
     cases s with
     | dead=>exact hy
     | _=>exact shext_at _ v m m1 y hy fun b hb=>hl b (slots_le l vs m1 m2 z hz b hb)
    rw [this]
    simp only
    rw [slots_at l vs m1 m2 z hz hl]
   ·
    cases h
  ·
   cases h
theorem heap_le {H:List Blk}:∀ (l:List BSh) (i:Nat) (m m':Mt) (y:BShD l),extHeap H l i m = some (y,m')→(∀ b ∈ m.lent,b ∈ m'.lent)∧∀ k j,m.σ.get k = some j→m'.σ.get k = some j
 | [],_,m,m',y,h=>by
  simp only [extHeap,Option.some.injEq,Prod.mk.injEq] at h
  obtain ⟨_,rfl⟩:=h; exact ⟨fun b hb=>hb,fun k j h=>h⟩
 | b :: l,i,m,m',y,h=>by
  simp only [extHeap] at h
  split at h
  ·
   rename_i j hj
   split at h
   ·
    rename_i x m1 hx
    split at h
    ·
     rename_i z m2 hz
     have h:=Option.some.inj h; obtain ⟨_,rfl⟩:=Prod.mk.inj h
     obtain ⟨r1,r2⟩:=heap_le l (i + 1) m1 m2 z hz
     have q:(∀ b ∈ m.lent,b ∈ m1.lent)∧∀ k j,m.σ.get k = some j→m1.σ.get k = some j:=by
      cases b with
      | box t s =>
       cases hB:a0K H j with
       | box u v =>
        rw [hB] at hx
        simp only [BSh.ext] at hx
        split at hx
        ·
         split at hx
         ·
          rename_i w m3 hw
          split at hx
          ·
           have hx:=Option.some.inj hx; obtain ⟨_,rfl⟩:=Prod.mk.inj hx
           refine ⟨shext_le s v m m3 w hw,?_⟩
           have:∀ (s:Sh) (v:PV) (m m':Mt) (x:s.D),s.ext H v m = some (x,m')→∀ k j,m.σ.get k = some j→m'.σ.get k = some j:=by
            intro s
            induction s with
            | pl t =>
             intro v m m' x h k j hk
             simp only [Sh.ext] at h
             split at h
             ·
              have h:=Option.some.inj h; obtain ⟨_,rfl⟩:=Prod.mk.inj h; exact hk
             ·
              cases h
            | bp t =>
             intro v m m' x h k j hk
             cases v with
             | bptr u y =>
              simp only [Sh.ext] at h
              split at h
              ·
               have h:=Option.some.inj h; obtain ⟨_,rfl⟩:=Prod.mk.inj h; exact hk
              ·
               cases h
             | ptr b0 p =>
              simp only [Sh.ext] at h
              split at h
              ·
               have h:=Option.some.inj h; obtain ⟨_,rfl⟩:=Prod.mk.inj h; exact hk
              ·
               cases h
             | _=>simp [Sh.ext] at h
            | pair a c iha ihc =>
             intro v m m' x h k j hk
             cases v with
             | pair p q =>
              simp only [Sh.ext] at h
              split at h
              ·
               rename_i y m1 hy
               split at h
               ·
                rename_i z m2 hz
                have h:=Option.some.inj h; obtain ⟨_,rfl⟩:=Prod.mk.inj h
                exact ihc q m1 m2 z hz k j (iha p m m1 y hy k j hk)
               ·
                cases h
              ·
               cases h
             | _=>simp [Sh.ext] at h
            | ptr b0 p =>
             intro v m m' x h k j hk
             cases v with
             | ptr c q =>
              simp only [Sh.ext] at h
              split at h
              ·
               split at h
               ·
                rename_i σ' hσ
                have h:=Option.some.inj h; obtain ⟨_,rfl⟩:=Prod.mk.inj h; exact (get_bind hσ).2 k j hk
               ·
                cases h
              ·
               cases h
             | _=>simp [Sh.ext] at h
            | npt =>
             intro v m m' x h k j hk
             cases v with
             | npt=>simp only [Sh.ext] at h; have h:=Option.some.inj h; obtain ⟨_,rfl⟩:=Prod.mk.inj h; exact hk
             | _=>simp [Sh.ext] at h
            | whole b0 =>
             intro v m m' x h k j hk
             cases v with
             | whole c =>
              simp only [Sh.ext] at h
              split at h
              ·
               rename_i σ' hσ
               have h:=Option.some.inj h; obtain ⟨_,rfl⟩:=Prod.mk.inj h; exact (get_bind hσ).2 k j hk
              ·
               cases h
             | _=>simp [Sh.ext] at h
            | fn f =>
             intro v m m' x h k j hk
             cases v with
             | fn g =>
              simp only [Sh.ext] at h
              split at h
              ·
               have h:=Option.some.inj h; obtain ⟨_,rfl⟩:=Prod.mk.inj h; exact hk
              ·
               cases h
             | _=>simp [Sh.ext] at h
            | iface t s ih =>
             intro v m m' x h k j hk
             cases v with
             | iface u w =>
              simp only [Sh.ext] at h
              split at h
              ·
               exact ih w m m' x h k j hk
              ·
               cases h
             | _=>simp [Sh.ext] at h
            | clo f s ih =>
             intro v m m' x h k j hk
             cases v with
             | clo g w =>
              simp only [Sh.ext] at h
              split at h
              ·
               exact ih w m m' x h k j hk
              ·
               cases h
             | _=>simp [Sh.ext] at h
            | dead=>intro v m m' x h; cases v <;> simp [Sh.ext] at h
           exact this s v m m3 w hw
          ·
           cases hx
         ·
          cases hx
        ·
         cases hx
       | _=>rw [hB] at hx; simp [BSh.ext] at hx
      | row t =>
       cases hB:a0K H j with
       | row u r =>
        rw [hB] at hx
        simp only [BSh.ext] at hx
        split at hx
        ·
         have hx:=Option.some.inj hx; obtain ⟨_,rfl⟩:=Prod.mk.inj hx
         exact ⟨fun b hb=>hb,fun k j h=>h⟩
        ·
         cases hx
       | _=>rw [hB] at hx; simp [BSh.ext] at hx
     exact ⟨fun b hb=>r1 b (q.1 b hb),fun k j hk=>r2 k j (q.2 k j hk)⟩
    ·
     cases h
   ·
    cases h
  ·
   cases h
theorem heap_at {H H':List Blk}:∀ (l:List BSh) (i:Nat) (m m':Mt) (y:BShD l),extHeap H l i m = some (y,m')→(∀ b ∈ m'.lent,a0K H' b = a0K H b)→(∀ k j,m'.σ.get k = some j→a0K H' j = a0K H j)→extHeap H' l i m = some (y,m')
 | [],_,_,_,_,h,_,_=>h
 | b :: l,i,m,m',y,h,hl,hσ=>by
  simp only [extHeap] at h ⊢
  split at h
  ·
   rename_i j hj
   split at h
   ·
    rename_i x m1 hx
    split at h
    ·
     rename_i z m2 hz
     have h:=Option.some.inj h; obtain ⟨rfl,rfl⟩:=Prod.mk.inj h
     have q:=heap_le l (i + 1) m1 m2 z hz
     have q0:=heap_le (H:=H) [b] i m m1 (x,()) (by simp only [extHeap,hj,hx])
     have hbj:a0K H' j = a0K H j:=hσ i j (q.2 i j (q0.2 i j hj))
     have hx':b.ext H' (a0K H' j) m = some (x,m1):=by
      rw [hbj]
      cases b with
      | box t s =>
       cases hB:a0K H j with
       | box u v =>
        rw [hB] at hx
        simp only [BSh.ext] at hx ⊢
        split at hx
        ·
         split at hx
         ·
          rename_i w m3 hw
          split at hx
          ·
           rename_i hf
           have hx:=Option.some.inj hx; obtain ⟨rfl,rfl⟩:=Prod.mk.inj hx
           rw [shext_at s v m m3 w hw fun b hb=>hl b (q.1 b hb)]
           simp only [hf]
          ·
           cases hx
         ·
          cases hx
        ·
         cases hx
       | _=>rw [hB] at hx; simp [BSh.ext] at hx
      | row t =>
       cases hB:a0K H j with
       | row u r=>rw [hB] at hx; exact hx
       | _=>rw [hB] at hx; simp [BSh.ext] at hx
     have hz':=heap_at l (i + 1) m1 m2 z hz hl hσ
     simp only [hx',hz']
    ·
     cases h
   ·
    cases h
  ·
   cases h
theorem tmext_at {H H':List Blk} {τ:Tm} {vs:List PV} {x:τ.D} {m:Mt} (h:τ.ext vs H = some (x,m)) (hl:∀ b ∈ m.lent,a0K H' b = a0K H b) (hσ:∀ k j,m.σ.get k = some j→a0K H' j = a0K H j):τ.ext vs H' = some (x,m):=by
 unfold Tm.ext Tm.extF at h ⊢
 split at h
 ·
  rename_i y m1 hy
  split at h
  ·
   rename_i z m2 hz
   split at h
   ·
    rename_i hok
    have h:=Option.some.inj h
    obtain ⟨rfl,rfl⟩:=Prod.mk.inj h
    rw [slots_at τ.slots vs _ m1 y hy fun b hb=>hl b ((heap_le τ.heap 0 m1 m2 z hz).1 b hb)]
    simp only
    rw [heap_at τ.heap 0 m1 m2 z hz hl hσ]
    simp only
    have:m2.okb H' τ.heap.length = m2.okb H τ.heap.length:=by
     unfold Mt.okb
     congr 1
     generalize m2.lent = l at hl
     induction l with
     | nil=>rfl
     | cons b l ih=>simp only [List.all_cons]; rw [hl b (by simp),ih fun c hc=>hl c (by simp [hc])]
    rw [this,hok]
   ·
    cases h
  ·
   cases h
 ·
  cases h
end Sym

/- The law of a call whose arguments point to blocks of the caller's own. -/
namespace Sym
open Go
theorem keep_le:∀ (l:List BSh),keepN l ≤ l.length
 | []=>Nat.le_refl _
 | .box _ _ :: l=>by simp only [keepN,List.length_cons]; have:=keep_le l; omega
 | .row _ :: l=>Nat.zero_le _
theorem keep_box:∀ (l r:List BSh) (x:BShD l) (y:BShD r),keepOut l r = true→∀ i,i < keepN l→i < r.length∧∃ t v v',a0K (mkHeap l x) i = .box t v∧a0K (mkHeap r y) i = .box t v'
 | .box t s :: l,.box u s' :: r,x,y,h,i,hi=>by
  simp only [keepOut,Bool.and_eq_true] at h
  have e:=Ty.beq_eq h.1
  subst e
  cases i with
  | zero=>exact ⟨by simp,t,_,_,rfl,rfl⟩
  | succ i =>
   obtain ⟨h1,t',v,v',h2,h3⟩:=keep_box l r x.2 y.2 h.2 i (by simpa [keepN] using hi)
   exact ⟨by simpa using h1,t',v,v',h2,h3⟩
 | .box _ _ :: _,[],_,_,h,_,_=>by cases h
 | .box _ _ :: _,.row _ :: _,_,_,h,_,_=>by cases h
 | [],_,_,_,_,i,hi=>by simp [keepN] at hi
 | .row _ :: _,_,_,_,_,i,hi=>by simp [keepN] at hi
theorem unkept_iff (σ:Sub) (keep j:Nat):∀ n,j ∈ unkept σ keep n ↔ ∃ i,keep ≤ i∧i < n∧σ.get i = some j
 | 0=>by simp [unkept]
 | n + 1=>by
  have ih:=unkept_iff σ keep j n
  simp only [unkept]
  split
  ·
   rename_i k hb hk
   have hb:=Nat.le_of_ble_eq_true hb
   simp only [List.mem_cons,ih]
   constructor
   ·
    rintro (rfl | ⟨i,h1,h2,h3⟩)
    ·
     exact ⟨n,hb,by omega,hk⟩
    ·
     exact ⟨i,h1,by omega,h3⟩
   ·
    rintro ⟨i,h1,h2,h3⟩
    by_cases e:i = n
    ·
     subst e; rw [hk] at h3; left; exact (Option.some.inj h3).symm
    ·
     exact .inr ⟨i,h1,by omega,h3⟩
  ·
   rename_i hno
   rw [ih]
   constructor
   ·
    rintro ⟨i,h1,h2,h3⟩; exact ⟨i,h1,by omega,h3⟩
   ·
    rintro ⟨i,h1,h2,h3⟩
    by_cases e:i = n
    ·
     subst e; exact absurd h3 (hno j (Nat.ble_eq_true_of_le h1))
    ·
     exact ⟨i,h1,by omega,h3⟩
theorem outK_at (σ:Sub) (keep nb:Nat) (hin:∀ i i' j,σ.get i = some j→σ.get i' = some j→i = i') (hk:∀ i,i < keep→∃ j,σ.get i = some j∧j < nb):∀ (B:List Blk) (i0:Nat) (H:List Blk),
  (∀ k,i0 ≤ k→k < i0 + B.length→a0K (putBlks H (outK σ keep nb i0 B)) (renK σ keep nb k) = renBlk (renK σ keep nb) (a0K B (k - i0))) ∧
  (∀ j,(∀ k,i0 ≤ k→k < i0 + B.length→j ≠ renK σ keep nb k)→a0K (putBlks H (outK σ keep nb i0 B)) j = a0K H j):=by
 have hinj:∀ k k',renK σ keep nb k = renK σ keep nb k'→k = k':=by
  intro k k' h
  unfold renK at h
  by_cases h1:k < keep
  ·
   obtain ⟨j,hj,hl⟩:=hk k h1
   have e1:Nat.ble (k + 1) keep = true:=Nat.ble_eq_true_of_le h1
   rw [e1] at h
   simp only [hj] at h
   by_cases h2:k' < keep
   ·
    obtain ⟨j',hj',_⟩:=hk k' h2
    have e2:Nat.ble (k' + 1) keep = true:=Nat.ble_eq_true_of_le h2
    rw [e2] at h
    simp only [hj'] at h
    subst h
    exact hin k k' j hj hj'
   ·
    have e2:Nat.ble (k' + 1) keep = false:=by
     cases hb:Nat.ble (k' + 1) keep with
     | false=>rfl
     | true=>have:=Nat.le_of_ble_eq_true hb; omega
    rw [e2] at h
    simp only at h
    omega
  ·
   have e1:Nat.ble (k + 1) keep = false:=by
    cases hb:Nat.ble (k + 1) keep with
    | false=>rfl
    | true=>have:=Nat.le_of_ble_eq_true hb; omega
   rw [e1] at h
   simp only at h
   by_cases h2:k' < keep
   ·
    obtain ⟨j',hj',hl⟩:=hk k' h2
    have e2:Nat.ble (k' + 1) keep = true:=Nat.ble_eq_true_of_le h2
    rw [e2] at h
    simp only [hj'] at h
    omega
   ·
    have e2:Nat.ble (k' + 1) keep = false:=by
     cases hb:Nat.ble (k' + 1) keep with
     | false=>rfl
     | true=>have:=Nat.le_of_ble_eq_true hb; omega
    rw [e2] at h
    simp only at h
    omega
 intro B
 induction B with
 | nil=>intro i0 H; exact ⟨fun k h1 h2=>by simp at h2; omega,fun j _=>rfl⟩
 | cons b B ih =>
  intro i0 H
  obtain ⟨r1,r2⟩:=ih (i0 + 1) (putBlk H (renK σ keep nb i0) (renBlk (renK σ keep nb) b))
  simp only [outK,putBlks,List.length_cons]
  refine ⟨fun k h1 h2=>?_,fun j hj=>?_⟩
  ·
   by_cases e:k = i0
   ·
    subst e
    rw [r2 _ fun k' h3 h4 h5=>by have:=hinj _ _ h5; omega,blkAt_put,if_pos rfl,Nat.sub_self]
    rfl
   ·
    rw [r1 k (by omega) (by omega),show k - i0 = (k - (i0 + 1)) + 1 by omega]
    rfl
  ·
   rw [r2 j fun k h3 h4=>hj k (by omega) (by omega),blkAt_put,if_neg (hj i0 (Nat.le_refl _) (by omega))]
theorem lentK_sub (all:Bool) (args:List Nat):∀ (l:List Nat) (b:Nat),b ∈ lentK all args l→b ∈ l
 | [],_,h=>by simp [lentK] at h
 | c :: l,b,h=>by
  simp only [lentK] at h
  split at h
  ·
   simp only [List.mem_cons] at h ⊢
   exact h.imp id (lentK_sub all args l b)
  ·
   exact List.mem_cons_of_mem _ (lentK_sub all args l b h)
theorem mem_lentK {all:Bool} {args:List Nat}:∀ (l:List Nat) (b:Nat),b ∈ l→(all = true ∨ b ∉ args)→b ∈ lentK all args l
 | [],_,h,_=>by simp at h
 | c :: l,b,h,hc=>by
  have memN_iff':∀ (b:Nat) (l:List Nat),memN b l = true→b ∈ l:=by
   intro b l
   induction l with
   | nil=>intro h; cases h
   | cons c l ih =>
    intro h
    simp only [memN,Bool.or_eq_true] at h
    rcases h with h | h
    ·
     rw [Nat.eq_of_beq_eq_true h]; simp
    ·
     simp [ih h]
  simp only [List.mem_cons] at h
  simp only [lentK]
  rcases h with rfl | h
  ·
   have:(all || !memN b args) = true:=by
    rcases hc with rfl | hc
    ·
     rfl
    ·
     cases hm:memN b args with
     | false=>simp
     | true=>exact absurd (memN_iff' b args hm) hc
   rw [this]; simp
  ·
   have:=mem_lentK l b h hc
   split
   ·
    simp [this]
   ·
    exact this
section
variable {P:Program} {base:World} {G0 own0:Nat→Prop} {o:Oper} {a:Act} {c:Cx}
theorem law_callH (hM:Mem base G0 own0 c) {f0:FuncId} {us:List Value} (hex:(execOp a.eval o).run P c.w = (callFunc f0 us.toArray).run P c.w) {C:Con} (hC:a0X P f0 C) (hko:keepOut C.In.heap C.Out.heap = true) {vs:List PV} (ha:All2 (VOk c) vs us) (hlen:vs.length = C.In.slots.length)
  {x:C.In.D} {m:Mt} (hx:C.In.ext vs c.H = some (x,m)) {y:C.Out.D} (hy:C.F x = some y) {nb:Nat} (hnb:∀ i j,m.σ.get i = some j→j < nb) (hn:∀ i,keepN C.In.heap ≤ i→i < C.Out.heap.length→a0K c.H (nb + (i - keepN C.In.heap)) = .unborn)
  {L:List Nat} (hL:∀ b ∈ L,b ∈ m.lent) (hLa:C.Out.hasSl = true→∀ b ∈ m.lent,b ∈ L) :
  OpRes P base G0 own0 o a c (renPV (renK m.σ (keepN C.In.heap) nb) (tuple (a1U C.Out.slots y.1))) (kill L ++ (kill (unkept m.σ (keepN C.In.heap) C.In.heap.length) ++ outK m.σ (keepN C.In.heap) nb 0 (mkHeap C.Out.heap y.2))):=by
 obtain ⟨keep,hkeep⟩:∃ keep,keep = keepN C.In.heap:=⟨_,rfl⟩
 rw [← hkeep] at hn ⊢
 have hkl:keep ≤ C.In.heap.length:=by rw [hkeep]; exact keep_le _
 obtain ⟨t1,t2,t3,t4,t5,t6⟩:=Tm_ext hM.blk hx
 obtain ⟨hblk,hargs⟩:=t6 (Glent c m.lent) (fun r h=>h)
 obtain ⟨us',e1,e2,hargs⟩:=hargs _ ha
 have hll:us.length = C.In.slots.length:=by
  rw [← hlen]
  have:∀ (vs:List PV) (us:List Value),All2 (VOk c) vs us→us.length = vs.length:=by
   intro vs
   induction vs with
   | nil=>intro us h; cases us with | nil=>rfl | cons _ _=>exact h.elim
   | cons v vs ih=>intro us h; cases us with | nil=>exact h.elim | cons u us=>simp [ih us h.2]
  exact this vs _ ha
 have e1:us = us':=by
  rw [List.drop_of_length_le (by omega)] at e1
  simpa using e1
 subst e1
 let cc:=partCx c C.In x m (Glent c m.lent)
 have hccH:cc.H = mkHeap C.In.heap x.2:=rfl
 have hccρ:∀ i j,m.σ.get i = some j→cc.ρ i = c.ρ j:=fun i j h=>by simp [cc,partCx,h]
 have hlive:∀ i,live (a0K cc.H i) = true→∃ j,m.σ.get i = some j∧live (a0K c.H j) = true:=by
  intro i hi
  have hlt:i < C.In.heap.length:=by
   rcases Nat.lt_or_ge i C.In.heap.length with h | h
   ·
    exact h
   ·
    rw [blkAt_ge _ _ (by rw [hccH,mkHeap_len]; exact h)] at hi; cases hi
  obtain ⟨j,hj⟩:=t3 i hlt
  refine ⟨j,hj,?_⟩
  have:=t5 i j hj
  have live_sim:∀ {B B':Blk},BlkSim B B'→live B = live B':=by
   intro B B' h
   cases B <;> cases B' <;> first | rfl | exact h.elim | (simp [BlkSim] at h)
  rw [← live_sim this]; exact hi
 have hbl:∀ i j,m.σ.get i = some j→live (a0K c.H j) = true:=by
  intro i j hij
  obtain ⟨b,hb,xb,hbx⟩:=mkHeap_kind C.In.heap x.2 i (t2 i j hij)
  obtain ⟨j',hj',hl'⟩:=hlive i (by rw [hccH,hbx]; cases b <;> rfl)
  rw [hij] at hj'
  rw [Option.some.inj hj']; exact hl'
 have hGl:∀ r,Glent c m.lent r→r < c.w.heap.size:=by
  rintro r (h | ⟨b,hb,hl,he⟩)
  ·
   rw [hM.G] at h; exact h.2.1
  ·
   exact (hM.blk b).lt hl he
 have hGdis:∀ r,Glent c m.lent r→∀ i j,m.σ.get i = some j→blkOf (c.ρ j) ≠ some r:=by
  intro r hr i j hij he
  rcases hr with hr | ⟨b,hb,hl,he'⟩
  ·
   rw [hM.G] at hr; exact hr.2.2 j (hbl i j hij) he
  ·
   have:b = j:=hM.inj b j r hl (hbl i j hij) he' he
   subst this
   have:=(t1 b hb).1
   rw [inv_of_get m.σ i b hij] at this
   cases this
 have hS:Start cc:=by
  refine ⟨hblk,fun b b' r hb hb' he he'=>?_,fun r hr=>⟨hGl r hr,fun b hb he=>?_⟩⟩
  ·
   obtain ⟨j,hj,hlj⟩:=hlive b hb
   obtain ⟨j',hj',hlj'⟩:=hlive b' hb'
   rw [hccρ b j hj] at he
   rw [hccρ b' j' hj'] at he'
   have:=hM.inj j j' r hlj hlj' he he'
   subst this
   exact t4 b b' j hj hj'
  ·
   obtain ⟨j,hj,hlj⟩:=hlive b hb
   rw [hccρ b j hj] at he
   exact hGdis r hr b j hj he
 have hcall:=hC x y hy _ _ hS rfl hargs
 have hown:∀ r,ownOf cc r→∃ i j,m.σ.get i = some j∧blkOf (c.ρ j) = some r:=by
  rintro r ⟨b,hb,he⟩
  obtain ⟨j,hj,hlj⟩:=hlive b hb
  rw [hccρ b j hj] at he
  exact ⟨b,j,hj,he⟩
 have after:∀ v w',(∃ c':Cx,c'.w = w'∧c'.H = mkHeap C.Out.heap y.2∧VOk c' (tuple (a1U C.Out.slots y.1)) v∧Mem c.w (G0of cc) (ownOf cc) c'∧∀ i,i < keepN C.In.heap→c'.ρ i = cc.ρ i) →
   ∃ c2:Cx,c2.w = w'∧Ext c c2∧Mem base G0 own0 c2∧c2.H = putBlks c.H (kill L ++ (kill (unkept m.σ keep C.In.heap.length) ++ outK m.σ keep nb 0 (mkHeap C.Out.heap y.2)))∧VOk c2 (renPV (renK m.σ keep nb) (tuple (a1U C.Out.slots y.1))) v:=by
  rintro v w' ⟨c',rfl,hH',hv',hM',hkρ⟩
  rw [← hkeep] at hkρ
  have hlc:=mkHeap_len C.Out.heap y.2
  obtain ⟨c1,hw1,hH1,hρ1,hE1,hM1,hG1,hsame1⟩:=mem_kill hM L (fun b hb=>(t1 b (hL b hb)).2)
  have hbnd1:∀ i j,m.σ.get i = some j→a0K c1.H j = a0K c.H j:=fun i j hij=>hsame1 j fun hj=>by
   have:=(t1 j (hL j hj)).1
   rw [inv_of_get m.σ i j hij] at this; cases this
  obtain ⟨f,hf⟩:∃ f,f = renK m.σ keep nb:=⟨_,rfl⟩
  have fk:∀ i j,i < keep→m.σ.get i = some j→f i = j:=by
   intro i j hi hij
   rw [hf]; unfold renK
   rw [show Nat.ble (i + 1) keep = true from Nat.ble_eq_true_of_le hi]
   simp only [hij]
  have fn':∀ i,keep ≤ i→f i = nb + (i - keep):=by
   intro i hi
   rw [hf]; unfold renK
   rw [show Nat.ble (i + 1) keep = false by
    cases hb:Nat.ble (i + 1) keep with
    | false=>rfl
    | true=>have:=Nat.le_of_ble_eq_true hb; omega]
  let H2:=putBlks c1.H (kill (unkept m.σ keep C.In.heap.length) ++ outK m.σ keep nb 0 (mkHeap C.Out.heap y.2))
  have hput:∀ (l:List Nat) (H:List Blk) (b:Nat),a0K (putBlks H (kill l)) b = if b ∈ l then .dead else a0K H b:=by
   intro l
   induction l with
   | nil=>intro H b; simp [kill,putBlks]
   | cons x l ih =>
    intro H b
    have:putBlks H (kill (x :: l)) = putBlks (putBlk H x .dead) (kill l):=rfl
    rw [this,ih,blkAt_put]
    by_cases h1:b ∈ l
    ·
     simp [h1]
    ·
     by_cases h2:b = x <;> simp [h1,h2]
  obtain ⟨o1,o2⟩:=outK_at m.σ keep nb t4 (fun i hi=>by
   obtain ⟨j,hj⟩:=t3 i (by omega)
   exact ⟨j,hj,hnb i j hj⟩) (mkHeap C.Out.heap y.2) 0 (putBlks c1.H (kill (unkept m.σ keep C.In.heap.length)))
  rw [← hf] at o1 o2
  simp only [Nat.zero_add,hlc,Nat.sub_zero] at o1 o2
  have hH2o:∀ i,i < C.Out.heap.length→a0K H2 (f i) = renBlk f (a0K (mkHeap C.Out.heap y.2) i):=fun i hi=>by
   show a0K (putBlks c1.H (_ ++ _)) _ = _
   rw [putBlks_app]; exact o1 i (Nat.zero_le _) hi
  have hH2u:∀ j,(∀ i,i < C.Out.heap.length→j ≠ f i)→a0K H2 j = if j ∈ unkept m.σ keep C.In.heap.length then .dead else a0K c1.H j:=fun j hj=>by
   show a0K (putBlks c1.H (_ ++ _)) _ = _
   rw [putBlks_app]
   have:=o2 j (fun i _ hi=>hj i hi)
   rw [this,hput]
  have hkb:∀ i,i < keep→i < C.Out.heap.length∧∃ t v v',a0K (mkHeap C.In.heap x.2) i = .box t v∧a0K (mkHeap C.Out.heap y.2) i = .box t v':=fun i hi=>keep_box _ _ x.2 y.2 hko i (by rw [← hkeep]; exact hi)
  have fin:∀ i i',f i = f i'→i < C.Out.heap.length→i' < C.Out.heap.length→i = i':=by
   intro i i' h _ _
   by_cases h1:i < keep
   ·
    obtain ⟨j,hj⟩:=t3 i (by omega)
    rw [fk i j h1 hj] at h
    by_cases h2:i' < keep
    ·
     obtain ⟨j',hj'⟩:=t3 i' (by omega)
     rw [fk i' j' h2 hj'] at h
     subst h
     exact t4 i i' j hj hj'
    ·
     rw [fn' i' (by omega)] at h
     have:=hnb i j hj; omega
   ·
    rw [fn' i (by omega)] at h
    by_cases h2:i' < keep
    ·
     obtain ⟨j',hj'⟩:=t3 i' (by omega)
     rw [fk i' j' h2 hj'] at h
     have:=hnb i' j' hj'; omega
    ·
     rw [fn' i' (by omega)] at h
     omega
  let ρ2:Nat→Value:=fun j=>if nb ≤ j∧j < nb + (C.Out.heap.length - keep) then c'.ρ (keep + (j - nb)) else c.ρ j
  have hkO:keep ≤ C.Out.heap.length:=by
   rcases Nat.eq_zero_or_pos keep with h | h
   ·
    omega
   ·
    have:=(hkb (keep - 1) (by omega)).1; omega
  have hρ2:∀ i,i < C.Out.heap.length→ρ2 (f i) = c'.ρ i:=by
   intro i hi
   by_cases h1:i < keep
   ·
    obtain ⟨j,hj⟩:=t3 i (by omega)
    rw [fk i j h1 hj]
    have:=hnb i j hj
    simp only [ρ2]
    rw [if_neg (by omega),hkρ i h1,hccρ i j hj]
   ·
    rw [fn' i (by omega)]
    simp only [ρ2]
    rw [if_pos ⟨by omega,by omega⟩,show keep + (nb + (i - keep) - nb) = i by omega]
  let D:Nat→Prop:=fun j=>(∃ i,i < C.Out.heap.length∧j = f i) ∨ j ∈ unkept m.σ keep C.In.heap.length
  have hDlive:∀ j,live (a0K H2 j) = true→D j→∃ i,i < C.Out.heap.length∧j = f i∧live (a0K c'.H i) = true∧ρ2 j = c'.ρ i:=by
   intro j hl hD
   by_cases hex:∃ i,i < C.Out.heap.length∧j = f i
   ·
    obtain ⟨i,hi,rfl⟩:=hex
    refine ⟨i,hi,rfl,?_,hρ2 i hi⟩
    rw [hH2o i hi,live_ren] at hl
    rw [hH']; exact hl
   ·
    have hno:∀ i,i < C.Out.heap.length→j ≠ f i:=fun i hi e=>hex ⟨i,hi,e⟩
    rw [hH2u j hno] at hl
    rcases hD with h | h
    ·
     exact absurd h hex
    ·
     rw [if_pos h] at hl; cases hl
  have hbD:∀ i j,m.σ.get i = some j→D j:=by
   intro i j hij
   by_cases h1:i < keep
   ·
    left; exact ⟨i,(hkb i h1).1,(fk i j h1 hij).symm⟩
   ·
    right; exact (unkept_iff _ _ _ _).2 ⟨i,by omega,t2 i j hij,hij⟩
  have hT:Turn base G0 own0 c1 (Cx.next base G0 c'.w ρ2 H2) D:=by
   refine ⟨hM'.os.trans (by rw [hw1]),hM'.tape.trans (by rw [hw1]),hM'.output.trans (by rw [hw1]),by show c1.w.heap.size ≤ c'.w.heap.size; rw [hw1]; exact hM'.size,fun j hj=>?_,fun j hj=>?_,fun r hr hfr=>?_,fun j hj=>?_,fun j r hj hl he=>?_,fun j j' r hj hj' hl hl' he he'=>?_,rfl⟩
   ·
    show ρ2 j = c1.ρ j
    rw [hρ1]
    simp only [ρ2]
    rw [if_neg]
    rintro ⟨h1,h2⟩
    exact hj (.inl ⟨keep + (j - nb),by omega,by rw [fn' _ (by omega)]; omega⟩)
   ·
    show a0K H2 j = _
    rw [hH2u j fun i hi e=>hj (.inl ⟨i,hi,e⟩),if_neg fun h=>hj (.inr h)]
   ·
    show c'.w.heap[r]? = c1.w.heap[r]?
    rw [hw1] at hr ⊢
    refine hM'.frame r hr fun ho=>?_
    obtain ⟨i,j,hij,he⟩:=hown r ho
    exact hfr j (hbD i j hij) (by rw [hbnd1 i j hij]; exact hbl i j hij) (by rw [hρ1]; exact he)
   ·
    
    unfold BlkLe
    show match a0K c1.H j,a0K H2 j with
     | .unborn,_=>True
     | _,.dead=>True
     | .box t _,.box t' _=>t' = t∧ρ2 j = c1.ρ j
     | .row t l,.row t' l'=>t' = t∧l'.length = l.length∧ρ2 j = c1.ρ j
     | _,_=>False
    by_cases hex:∃ i,i < C.Out.heap.length∧j = f i
    ·
     obtain ⟨i,hi,rfl⟩:=hex
     by_cases h1:i < keep
     ·
      obtain ⟨j,hj⟩:=t3 i (by omega)
      obtain ⟨_,t,v1,v2,q1,q2⟩:=hkb i h1
      rw [hH2o i hi,q2]
      have hs:=t5 i j hj
      rw [q1] at hs
      have e:=fk i j h1 hj
      rw [e,hbnd1 i j hj]
      cases hcj:a0K c.H j with
      | box u w =>
       rw [hcj] at hs
       simp only [BlkSim] at hs
       refine ⟨hs,?_⟩
       rw [← e,hρ2 i hi,hkρ i h1,hccρ i j hj,hρ1,e]
      | _=>rw [hcj] at hs; simp [BlkSim] at hs
     ·
      have hb:=hn i (by omega) hi
      have hnl:f i ∉ L:=fun h=>by
       have:=(t1 _ (hL _ h)).2
       rw [fn' i (by omega),hb] at this; cases this
      rw [hsame1 _ hnl,fn' i (by omega),hb]
      trivial
    ·
     have hno:∀ i,i < C.Out.heap.length→j ≠ f i:=fun i hi e=>hex ⟨i,hi,e⟩
     rw [hH2u j hno]
     rcases hj with h | h
     ·
      exact absurd h hex
     ·
      rw [if_pos h]; cases a0K c1.H j <;> trivial
   ·
    obtain ⟨i,hi,rfl,hli,hρi⟩:=hDlive j hl hj
    have he:blkOf (ρ2 (f i)) = some r:=he
    rw [hρi] at he
    rw [hw1]
    rcases hM'.own i r hli he with h | h
    ·
     right
     obtain ⟨i',j',hij,he'⟩:=hown r h
     exact ⟨j',hbD i' j' hij,by rw [hbnd1 i' j' hij]; exact hbl i' j' hij,by rw [hρ1]; exact he'⟩
    ·
     exact .inl h
   ·
    obtain ⟨i,hi,rfl,hli,hρi⟩:=hDlive j hl hj
    obtain ⟨i',hi',rfl,hli',hρi'⟩:=hDlive j' hl' hj'
    have he:blkOf (ρ2 (f i)) = some r:=he
    have he':blkOf (ρ2 (f i')) = some r:=he'
    rw [hρi] at he
    rw [hρi'] at he'
    rw [hM'.inj i i' r hli hli' he he']
  have hE:=hT.ext hM1
  have hren:Ren c' (Cx.next base G0 c'.w ρ2 H2) f:=by
   refine ⟨rfl,fun i hi=>?_⟩
   have hlt:i < C.Out.heap.length:=by
    rcases Nat.lt_or_ge i C.Out.heap.length with h | h
    ·
     exact h
    ·
     exact absurd (blkAt_ge c'.H i (by rw [hH',hlc]; exact h)) hi
   simp only [Cx.next]
   rw [hH2o i hlt,hH']
   exact ⟨rfl,hρ2 i hlt⟩
  have hGG:C.Out.hasSl = true→∀ r,c'.G r→(Cx.next base G0 c'.w ρ2 H2).G r:=by
   intro hsl r hr
   rw [hM'.G] at hr
   obtain ⟨h1,h2,h3⟩:=hr
   have notD:∀ j,live (a0K H2 j) = true→blkOf (ρ2 j) = some r→¬ D j:=by
    intro j hl he hD
    obtain ⟨i,hi,rfl,hli,hρi⟩:=hDlive j hl hD
    rw [hρi] at he
    exact h3 i hli he
   have old:∀ j,live (a0K H2 j) = true→blkOf (ρ2 j) = some r→live (a0K c.H j) = true∧blkOf (c.ρ j) = some r:=by
    intro j hl he
    have hnD:=notD j hl he
    have hno:∀ i,i < C.Out.heap.length→j ≠ f i:=fun i hi e=>hnD (.inl ⟨i,hi,e⟩)
    rw [hH2u j hno,if_neg fun h=>hnD (.inr h)] at hl
    have hjl:j ∉ L:=fun h=>by
     have:a0K c1.H j = .dead:=by rw [hH1,hput,if_pos h]
     rw [this] at hl; cases hl
    rw [hsame1 j hjl] at hl
    refine ⟨hl,?_⟩
    have:ρ2 j = c.ρ j:=by
     simp only [ρ2]
     rw [if_neg]
     rintro ⟨q1,q2⟩
     exact hnD (.inl ⟨keep + (j - nb),by omega,by rw [fn' _ (by omega)]; omega⟩)
    rw [← this]; exact he
   rcases h1 with (h1 | h1) | h1
   ·
    exact (hE.G r (hG1 r (by
     rcases h1 with h1 | ⟨b,hb,hl,he⟩
     ·
      exact .inl h1
     ·
      exact .inr ⟨b,hLa hsl b hb,hl,he⟩))).1
   ·
    obtain ⟨i,j,hij,he⟩:=hown r h1
    refine ⟨?_,h2,fun j' hl' he'=>?_⟩
    ·
     rcases hM.own j r (hbl i j hij) he with h4 | h4
     ·
      exact .inl (hM.sub r h4)
     ·
      exact .inr h4
    ·
     obtain ⟨q1,q2⟩:=old j' hl' he'
     have:=hM.inj j j' r (hbl i j hij) q1 he q2
     subst this
     exact notD j hl' he' (hbD i j hij)
   ·
    refine ⟨.inr (by have:=hM.size; omega),h2,fun j' hl' he'=>?_⟩
    obtain ⟨q1,q2⟩:=old j' hl' he'
    have:=(hM.blk j').lt q1 q2
    omega
  have hMem:=hT.mem hM1 fun j hj=>by
   by_cases hex:∃ i,i < C.Out.heap.length∧j = f i
   ·
    obtain ⟨i,hi,rfl⟩:=hex
    have hb:=hM'.blk i
    obtain ⟨b,hbl2,xb,hbk⟩:=mkHeap_kind C.Out.heap y.2 i hi
    have hbh:C.Out.hasSl = false→b.hasSl = false:=by
     intro hsl
     simp only [Tm.hasSl,Bool.or_eq_false_iff] at hsl
     have:=hsl.2
     rw [List.any_eq_false] at this
     have:=this b (List.mem_of_getElem? hbl2)
     simpa using this
    unfold BlkOk at hb ⊢
    simp only [Cx.next]
    rw [hH2o i hi,hbk]
    rw [hH',hbk] at hb
    cases b with
    | box t s =>
     simp only [BSh.mk,renBlk] at hb ⊢
     obtain ⟨r,cs,ty,k1,k2,k3,k4⟩:=hb
     refine ⟨r,cs,ty,by rw [hρ2 i hi]; exact k1,k2,cells_ren hren _ cs ?_ k3,by rw [fits_ren]; exact k4⟩
     cases hsl:C.Out.hasSl with
     | true=>exact .inl (hGG hsl)
     | false=>exact .inr (mk_nosl s xb (by have:=hbh hsl; simpa [BSh.hasSl] using this))
    | row t =>
     simp only [BSh.mk,renBlk] at hb ⊢
     obtain ⟨hl,e,xs,ho',hx'⟩:=hb
     refine ⟨hl,e,xs,by rw [hρ2 i hi]; exact ho',EncL_mono (fun z cs hz=>?_) _ xs hx'⟩
     cases hsl:C.Out.hasSl with
     | true=>exact Enc_G (hGG hsl) hz
     | false=>exact Enc_nosl t (by have:=hbh hsl; simpa [BSh.hasSl] using this) z cs hz
   ·
    have hno:∀ i,i < C.Out.heap.length→j ≠ f i:=fun i hi e=>hex ⟨i,hi,e⟩
    unfold BlkOk
    simp only [Cx.next]
    rw [hH2u j hno]
    rcases hj with h | h
    ·
     exact absurd h hex
    ·
     rw [if_pos h]; trivial
  refine ⟨Cx.next base G0 c'.w ρ2 H2,rfl,hE1.trans hE,hMem,by show H2 = _; rw [putBlks_app,← hH1],?_⟩
  rw [← hf]
  refine v_ren hren ?_ hv'
  cases hsl:C.Out.hasSl with
  | true=>exact .inl (hGG hsl)
  | false=>exact .inr (nosl_tuple _ _ (by simp only [Tm.hasSl,Bool.or_eq_false_iff] at hsl; exact hsl.1))
 intro K Q hK
 unfold Oper.wp
 rw [hex]
 rcases hcall with ⟨v,w',hr,hR⟩ | ⟨hr,hR⟩
 ·
  have hr:(callFunc f0 us.toArray).run P c.w = .ok (.value v) w':=hr
  rw [hr]
  obtain ⟨c2,rfl,g1,g2,g3,g4⟩:=after v w' hR
  exact hK v c2 g1 g2 g3 g4
 ·
  have hr:(callFunc f0 us.toArray).run P c.w = .ok (.enter f0 us.toArray) c.w:=hr
  rw [hr]
  refine Calls.mono hR ?_
  rintro e w' ⟨v,rfl,hR⟩
  obtain ⟨c2,rfl,g1,g2,g3,g4⟩:=after v w' hR
  exact hK v c2 g1 g2 g3 g4
theorem callCon_ok {P:Program} {R:Type} {T:R→Prop} {fail:R} (hf:¬ T fail) {f:FuncId} {C:Con} (hC:a0X P f C) {vs:List PV} {H:List Blk} {nb:Nat} {K:PV→List (Nat × Blk)→R} (h:T (callCon fail C vs H nb K)) :
  ∃ pv δ,T (K pv δ)∧∀ (base:World) (G0 own0:Nat→Prop) (o:Oper) (a:Act) (c:Cx) (us:List Value),Mem base G0 own0 c→Ag H c.H (rdC H (blksL vs))→All2 (VOk c) vs us→(execOp a.eval o).run P c.w = (callFunc f us.toArray).run P c.w →
   (∀ p ∈ δ,nb ≤ p.1→a0K c.H p.1 = .unborn)→(∀ p ∈ δ,p.1 < nb→a0K c.H p.1 = a0K H p.1)→OpRes P base G0 own0 o a c pv δ:=by
 unfold callCon at h
 split at h
 ·
  rename_i hin
  split at h
  ·
   rename_i x m hx hl
   unfold optF at h
   split at h
   ·
    rename_i y hy
    refine ⟨_,_,h,fun base G0 own0 o a c us hM hag ha hex hn _=>?_⟩
    rw [← tmext_ag hin vs (H':=c.H) hag] at hx
    refine law_call hM hex hC hin ha (Nat.eq_of_beq_eq_true hl) hx hy fun i hi=>?_
    have hlen:=mkHeap_len C.Out.heap y.2
    have hmem:∀ (B:List Blk) (j:Nat) (i:Nat),i < B.length→∃ b,(nb + (j + i),b) ∈ newBlks nb j B:=by
     intro B
     induction B with
     | nil=>intro j i h; simp at h
     | cons b B ih =>
      intro j i h
      cases i with
      | zero=>exact ⟨_,List.mem_cons_self⟩
      | succ i =>
       obtain ⟨b',hb'⟩:=ih (j + 1) i (by simpa using h)
       exact ⟨b',List.mem_cons_of_mem _ (by rw [show j + (i + 1) = j + 1 + i by omega]; exact hb')⟩
    obtain ⟨b,hb⟩:=hmem (mkHeap C.Out.heap y.2) 0 i (by omega)
    have:=hn _ (List.mem_append_right _ hb) (by simp)
    simpa using this
   ·
    exact absurd h hf
  ·
   exact absurd h hf
 ·
  split at h
  ·
   rename_i x m hx
   split at h
   ·
    rename_i hl
    simp only [Bool.and_eq_true] at hl
    obtain ⟨hl,hko,hbl,hll⟩:=hl
    unfold optF at h
    split at h
    ·
     rename_i y hy
     refine ⟨_,_,h,fun base G0 own0 o a c us hM hag ha hex hn hag2=>?_⟩
     have hag1:∀ b,b ∈ blksL vs→a0K c.H b = a0K H b:=hag.flat
     have hlt:∀ b ∈ m.lent,b < nb:=by
      intro b hb
      rw [List.all_eq_true] at hll
      exact Nat.le_of_ble_eq_true (hll b hb)
     have hbnd:∀ n i j,bndLt m.σ nb n = true→i < n→m.σ.get i = some j→j < nb:=by
      intro n
      induction n with
      | zero=>intro i j _ h; omega
      | succ n ih =>
       intro i j hb hi hij
       simp only [bndLt,Bool.and_eq_true] at hb
       by_cases e:i = n
       ·
        subst e; rw [hij] at hb; exact Nat.le_of_ble_eq_true hb.1
       ·
        exact ih i j hb.2 (by omega) hij
     have hkey:∀ i j,m.σ.get i = some j→i < C.In.heap.length:=by
      intro i j hij
      unfold Tm.ext Tm.extF at hx
      split at hx
      ·
       split at hx
       ·
        split at hx
        ·
         rename_i hok
         have hx:=Option.some.inj hx
         obtain ⟨_,rfl⟩:=Prod.mk.inj hx
         simp only [Mt.okb,Bool.and_eq_true] at hok
         exact keys_ok _ _ hok.2.1 i j hij
        ·
         cases hx
       ·
        cases hx
      ·
       cases hx
     have hout:∀ (B:List Blk) (i0 i:Nat),i < B.length→∃ b,(renK m.σ (keepN C.In.heap) nb (i0 + i),b) ∈ outK m.σ (keepN C.In.heap) nb i0 B:=by
      intro B
      induction B with
      | nil=>intro i0 i h; simp at h
      | cons b B ih =>
       intro i0 i h
       cases i with
       | zero=>exact ⟨_,List.mem_cons_self⟩
       | succ i =>
        obtain ⟨b',hb'⟩:=ih (i0 + 1) i (by simpa using h)
        exact ⟨b',List.mem_cons_of_mem _ (by rw [show i0 + (i + 1) = i0 + 1 + i by omega]; exact hb')⟩
     have hlen:=mkHeap_len C.Out.heap y.2
     have hx':C.In.ext vs c.H = some (x,m):=by
      refine tmext_at hx (fun b hb=>?_) fun i j hij=>?_
      ·
       by_cases hv:b ∈ blksL vs
       ·
        exact hag1 b hv
       ·
        exact hag2 (b,.dead) (List.mem_append_left _ (List.mem_map.2 ⟨b,mem_lentK (all:=C.Out.hasSl) m.lent b hb (.inr hv),rfl⟩)) (hlt b hb)
      ·
       have hj:=hbnd _ i j hbl (hkey i j hij) hij
       by_cases hi:i < keepN C.In.heap
       ·
        obtain ⟨hiO,_⟩:=keep_box _ _ x.2 y.2 hko i hi
        obtain ⟨b,hb⟩:=hout (mkHeap C.Out.heap y.2) 0 i (by omega)
        have hr:renK m.σ (keepN C.In.heap) nb (0 + i) = j:=by
         unfold renK
         rw [Nat.zero_add,show Nat.ble (i + 1) (keepN C.In.heap) = true from Nat.ble_eq_true_of_le hi]
         simp only [hij]
        rw [hr] at hb
        exact hag2 (j,b) (List.mem_append_right _ (List.mem_append_right _ hb)) hj
       ·
        exact hag2 (j,.dead) (List.mem_append_right _ (List.mem_append_left _ (List.mem_map.2 ⟨j,(unkept_iff _ _ _ _).2 ⟨i,by omega,hkey i j hij,hij⟩,rfl⟩))) hj
     refine law_callH hM hex hC hko ha (Nat.eq_of_beq_eq_true hl) hx' hy (fun i j hij=>hbnd _ i j hbl (hkey i j hij) hij) (fun i hi1 hi2=>?_) (fun b hb=>lentK_sub _ _ _ b hb) (fun hs b hb=>mem_lentK m.lent b hb (.inl hs))
     obtain ⟨b,hb⟩:=hout (mkHeap C.Out.heap y.2) 0 i (by omega)
     have hr:renK m.σ (keepN C.In.heap) nb (0 + i) = nb + (i - keepN C.In.heap):=by
      unfold renK
      rw [Nat.zero_add,show Nat.ble (i + 1) (keepN C.In.heap) = false by
       cases hb:Nat.ble (i + 1) (keepN C.In.heap) with
       | false=>rfl
       | true=>have:=Nat.le_of_ble_eq_true hb; omega]
     rw [hr] at hb
     exact hn (nb + (i - keepN C.In.heap),b) (List.mem_append_right _ (List.mem_append_right _ hb)) (Nat.le_add_right _ _)
    ·
     exact absurd h hf
   ·
    exact absurd h hf
  ·
   exact absurd h hf
end
end Sym

/- The laws of single operations, fifteenth part: strings. -/
namespace Sym
open Go
section
variable {P:Program} {base:World} {G0 own0:Nat→Prop} {o:Oper} {a:Act} {c:Cx}
theorem rdL_at {X:Type} (d:X):∀ (l:List X) (i:Nat) (h:i < l.length),rdL d l i = l[i]
 | [],_,h=>absurd h (Nat.not_lt_zero _)
 | _ :: _,0,_=>rfl
 | _ :: l,i + 1,h=>rdL_at d l i (Nat.lt_of_succ_lt_succ h)
theorem law_index_str (hM:Mem base G0 own0 c) {id:TypeId} {x y:Operand} (ho:o.op = .index id x y) (ht:TOk P .str id) {k:IntKind} {i:I k} {z:List (I .u8)} (hi:inB i (a1I z) = true)
  (hx:VOk c (.val .str z) (a.eval x)) (hy:VOk c (.val (.int k) i) (a.eval y)):OpRes P base G0 own0 o a c (.val (.int .u8) (rdL (I.of .u8 0) z i.nat)) []:=by
 obtain ⟨h0,h1,h1n,h2⟩:=inB_iff hi
 obtain ⟨_,hu⟩:=ht
 have h1':i.nat < z.length:=h1n
 refine a1L hM (v:=.int .u8 (rdL (I.of .u8 0) z i.nat).val) ?_ (ok_int _)
 have hs:=bytesOf_size z
 have hr:=run_index_string (P:=P) c.w id (bytesOf z) k i.val hu
 rw [dif_pos ⟨h0,by rw [hs]; exact h1⟩] at hr
 have he:(((bytesOf z)[i.val.toNat]'(by rw [hs]; exact h1n)).toNat:Int) = (rdL (I.of .u8 0) z i.nat).val:=by
  rw [rdL_at _ _ _ h1']
  show (((z.map byteOf).toArray[i.nat]'(by simpa using h1n)).toNat:Int) = _
  rw [List.getElem_toArray,List.getElem_map,byteOf_nat]
 rw [he] at hr
 simp only [execOp,ho,(v_str hx).1,v_int hy,Sem.run_bind,hr,Result.andThen_ok,Sem.run_pure]
theorem bytesExt {a b:ByteArray} (h:a.data.toList = b.data.toList):a = b:=by
 obtain ⟨⟨a⟩⟩:=a
 obtain ⟨⟨b⟩⟩:=b
 have h:a = b:=h
 rw [h]
theorem law_slice_str (hM:Mem base G0 own0 c) {id:TypeId} {x:Operand} {lo hi:Option Operand} (ho:o.op = .slice id x lo hi none) (ht:TOk P .str id) {bs:List PV} (ha:All2 (VOk c) bs (lo.toList.map a.eval ++ hi.toList.map a.eval))
  {y:List (I .u8)} {n:Nat} {b1 b2:Bool × Nat} (hb:slcBounds (some (a1I y)) lo.isSome hi.isSome bs = some (n,b1,b2)) (h1:b1.1 = true) (h2:b2.1 = true) (hx:VOk c (.val .str y) (a.eval x)) :
  OpRes P base G0 own0 o a c (.val .str (subL y b1.2 (b2.2 - b1.2))) []:=by
 obtain ⟨hv,hlim⟩:=v_str hx
 have hn:=(run_bounds (P:=P) lo hi bs ha hb h1 h2 false n (Nat.le_refl _) c.w).2.2.2
 have hn:y.length = n:=Option.some.inj hn
 obtain ⟨hr1,hle,hle',_⟩:=run_bounds (P:=P) lo hi bs ha hb h1 h2 false n (Nat.le_refl _) c.w
 obtain ⟨_,hu⟩:=ht
 have hs:=bytesOf_size y
 have hex:(bytesOf y).extract b1.2 b2.2 = bytesOf (subL y b1.2 (b2.2 - b1.2)):=by
  apply bytesExt
  rw [byteOf_data,ByteArray.data_extract,Array.toList_extract,List.extract_eq_take_drop,byteOf_data,List.map_take,List.map_drop]
 refine a1L hM (v:=.string (bytesOf (subL y b1.2 (b2.2 - b1.2)))) ?_ (ok_str ?_)
 ·
  rw [exec_slice ho,hv]
  have:(Instr.sliceAt id (.string (bytesOf y)) (lo.map a.eval) (hi.map a.eval) none).run P c.w = .ok (.string (bytesOf (subL y b1.2 (b2.2 - b1.2)))) c.w:=by
   unfold Instr.sliceAt
   rw [Sem.run_bind,run_underlying hu,Result.andThen_ok]
   unfold Instr.slice
   simp only [Sem.run_bind,run_underlying hu,Result.andThen_ok,hs,hn,Option.isSome_none,Bool.false_eq_true,if_false,hr1,Sem.run_pure,hex]
  simp only [Sem.run_bind,this,Result.andThen_ok,Sem.run_pure]
 ·
  show ((y.drop b1.2).take (b2.2 - b1.2)).length ≤ LIM
  rw [List.length_take,List.length_drop]
  omega
theorem law_conv_str (hM:Mem base G0 own0 c) {s d:TypeId} {x:Operand} (ho:o.op = .convert s d x) (hs:TOk P .str s) (hd:TOk P .str d) {y:List (I .u8)} (hx:VOk c (.val .str y) (a.eval x)) :
  OpRes P base G0 own0 o a c (.val .str y) []:=by
 obtain ⟨hv,hlim⟩:=v_str hx
 refine a1L hM (v:=.string (bytesOf y)) ?_ (ok_str hlim)
 obtain ⟨_,hs⟩:=hs
 obtain ⟨_,hd⟩:=hd
 simp only [execOp,ho,Sem.run_bind,hv]
 unfold convert
 simp only [Sem.run_bind,run_underlying hs,run_underlying hd,Result.andThen_ok,Sem.run_pure]
theorem law_conv_bytes (hM:Mem base G0 own0 c) {s d:TypeId} {x:Operand} (ho:o.op = .convert s d x) (hs:TOk P (.sl (.int .u8)) s) (hd:TOk P .str d) {px:PV} {l:List (I .u8)} {lent:List Nat} (hl:toVal c.H (.sl (.int .u8)) px = some (l,lent)) (hx:VOk c px (a.eval x)) :
  OpRes P base G0 own0 o a c (.val .str l) []:=by
 obtain ⟨us,h1,h2,he⟩:=toVal_v hM hx hl
 obtain ⟨ad,cap,rfl,hcap,hlim,hr⟩:=he
 have hlim:l.length ≤ LIM:=hlim
 have hv:a.eval x = .slice ad l.length cap:=h2
 refine a1L hM (v:=.string (bytesOf l)) ?_ (ok_str hlim)
 obtain ⟨_,e,hsu,_,hee⟩:=hs
 obtain ⟨_,hd⟩:=hd
 have hc:(convert s d (.slice ad l.length cap)).run P c.w = .ok (.string (bytesOf l)) c.w:=by
  rcases hr with hr | ⟨⟨r,q,spot⟩,rfl,hsp,hG,hrow⟩
  ·
   have hr:l = []:=hr
   subst hr
   rw [run_convert_bytes_string c.w s d e ad _ cap hsu hee hd]
   cases ad with
   | none=>rfl
   | some ad =>
    have:=run_bytesToString (P:=P) c.w ad 0 cap [] (run_loadCells_list (P:=P) c.w ad [] (fun j v hj=>by simp at hj))
    exact this
  ·
   simp only at hsp hrow
   subst hsp
   have:=run_convert_bytes_back (P:=P) c.w s d e ⟨r,q,none⟩ cap (l.map byteOf) hsu hee hd (fun j hj=>by
    have hj':j < l.length:=by simpa using hj
    obtain ⟨ds,e1,e2⟩:=hrow j l[j] (List.getElem?_eq_getElem hj')
    have e1:ds = [.int .u8 (l[j]).val]:=e1
    subst e1
    have:=e2 0 _ rfl
    rw [List.getElem_map,byteOf_nat]
    simpa [add_lit,Ty.sz] using this)
   rw [List.length_map] at this
   rw [this]
   rfl
 simp only [execOp,ho,Sem.run_bind,hv,hc,Result.andThen_ok,Sem.run_pure]
end
end Sym
