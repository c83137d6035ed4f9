/- From what a row reads of the arguments to plain values, and from a contract to the row's answer. -/
import Derived.Carry
import Derived.SizedLaws
import Derived.ChangeOld
import Derived.OpenShut
import Derived.Test.YthmdmcdjjopaiaaGreatRows
import Derived.WalkKit
import Derived.ProofKit
import Derived.Test.YthmdmcdjjopaiaaGreatPart3
namespace Sym
open Go
mutual
def argB (P:Program):Ty→TypeId→Bool
  | .cons a b,id=>match P.underlying id with
    | some (.struct fs)=>(match fs.toList with
      | f :: r=>argB P a f.type && fargB P b r
      | []=>false)
    | _=>false
  | .arr _ t,id=>match P.underlying id with
    | some (.array _ e)=>argB P t e
    | _=>false
  | .sl t,id=>match P.underlying id with
    | some (.slice e)=>Nat.ble 1 t.sz && (Nat.ble 1 (P.bytesOf e) && argB P t e)
    | _=>false
  | .opq,_=>false
  | .fnc,_=>false
  | _,_=>true
def fargB (P:Program):Ty→List Field→Bool
  | .cons a b,f :: r=>argB P a f.type && fargB P b r
  | _,_=>true
end
theorem mapM_some {X Y:Type} {f:X→Option Y}:∀ {l:List X} {r:List Y},l.mapM f = some r→r.length = l.length∧∀ (i:Nat) (a:X),l[i]? = some a→∃ b,r[i]? = some b∧f a = some b
  | [],r,h=>by
    simp only [List.mapM_nil,Option.pure_def,Option.some.injEq] at h
    subst h
    exact ⟨rfl,fun i a h=>by simp at h⟩
  | a :: l,r,h=>by
    simp only [List.mapM_cons,Option.bind_eq_bind,Option.bind_eq_some_iff,Option.pure_def,Option.some.injEq] at h
    obtain ⟨b,hb,s,hs,rfl⟩:=h
    obtain ⟨h1,h2⟩:=mapM_some hs
    refine ⟨by simp [h1],fun i x hx=>?_⟩
    cases i with
    | zero =>
      simp only [List.getElem?_cons_zero,Option.some.injEq] at hx
      subst hx
      exact ⟨b,by simp,hb⟩
    | succ i =>
      simp only [List.getElem?_cons_succ] at hx
      obtain ⟨y,h3,h4⟩:=h2 i x hx
      exact ⟨y,by simp [h3],h4⟩
theorem mapM_range {Y:Type} {f:Nat→Option Y} {n:Nat} {r:List Y} (h:(List.range n).mapM f = some r):r.length = n∧∀ i,i < n→∃ b,r[i]? = some b∧f i = some b:=by
  obtain ⟨h1,h2⟩:=mapM_some h
  refine ⟨by simpa using h1,fun i hi=>h2 i i (by simp [hi])⟩
theorem exists_list {X:Type}:∀ (n:Nat) (R:Nat→X→Prop),(∀ i,i < n→∃ x,R i x)→∃ l:List X,l.length = n∧∀ i x,l[i]? = some x→R i x
  | 0,_,_=>⟨[],rfl,fun i x h=>by simp at h⟩
  | n + 1,R,h=>by
    obtain ⟨x,hx⟩:=h 0 (by omega)
    obtain ⟨l,h1,h2⟩:=exists_list n (fun i x=>R (i + 1) x) fun i hi=>h (i + 1) (by omega)
    refine ⟨x :: l,by simp [h1],fun i y hy=>?_⟩
    cases i with
    | zero=>simp only [List.getElem?_cons_zero,Option.some.injEq] at hy; subst hy; exact hx
    | succ i=>exact h2 i y (by simpa using hy)
theorem exists_arr {X:Type} {E:X→List Value→Prop} {s:Nat}:∀ (n:Nat) (cs:List Value),cs.length = n * s→(∀ i,i < n→∃ x,E x ((cs.drop (i * s)).take s))→∃ x,EncArr E n x cs
  | 0,cs,hl,_=>⟨(),by simp at hl; exact hl⟩
  | n + 1,cs,hl,h=>by
    obtain ⟨x,hx⟩:=h 0 (by omega)
    simp only [Nat.zero_mul,List.drop_zero] at hx
    obtain ⟨y,hy⟩:=exists_arr (E:=E) (s:=s) n (cs.drop s) (by rw [List.length_drop,hl,Nat.succ_mul]; omega) fun i hi=>by
      obtain ⟨z,hz⟩:=h (i + 1) (by omega)
      refine ⟨z,?_⟩
      rw [List.drop_drop,show s + i * s = (i + 1) * s by rw [Nat.succ_mul]; omega]
      exact hz
    exact ⟨(x,y),cs.take s,cs.drop s,(List.take_append_drop s cs).symm,hx,hy⟩
theorem weightsAll_mem {H:Type} {P:Program} {e:TypeId}:∀ {ds:List (DataW H)} {i:Nat} {d:DataW H},ds[i]? = some d→∀ n ∈ d.weights P e,n ∈ DataW.weightsAll P e ds
  | d0 :: ds,0,d,hd,n,hn=>by
    simp only [List.getElem?_cons_zero,Option.some.injEq] at hd
    subst hd
    simp only [DataW.weightsAll,List.mem_append]
    exact .inl hn
  | d0 :: ds,i + 1,d,hd,n,hn=>by
    simp only [List.getElem?_cons_succ] at hd
    simp only [DataW.weightsAll,List.mem_append]
    exact .inr (weightsAll_mem hd n hn)
def strOf (s:ByteArray):List (I .u8):=s.data.toList.map fun b=>I.of .u8 b.toNat
theorem bytesOf_strOf (s:ByteArray):bytesOf (strOf s) = s:=by
  unfold bytesOf strOf
  cases s with | mk a =>
  congr 1
  rw [List.map_map]
  have:((fun c:I .u8=>UInt8.ofNat c.val.toNat) ∘ fun b:UInt8=>I.of .u8 b.toNat) = id:=by
    funext b
    simp only [Function.comp,id,I.of,IntKind.wrap,IntKind.bits,IntKind.signed,Bool.false_and,Bool.false_eq_true,if_false]
    have:=b.toNat_lt
    rw [show ((b.toNat:Int) % 2 ^ 8) = (b.toNat:Int) by omega,Int.toNat_natCast]
    exact UInt8.ofNat_toNat
  rw [this,List.map_id,Array.toArray_toList]
section
variable {H:Type} {enc:TypeId × Value→H} {P:Program} {W:World} {base:Nat} {spare:Nat→Bool} {held:Bool}
abbrev GW (W:World):Nat→Prop:=fun r=>r < W.heap.size
theorem cell_lt {a:Addr} {v:Value} (h:W.cell? a = some v):a.spot = none∧a.block < W.heap.size:=by
  unfold World.cell? at h
  split at h
  · rename_i c _ _ hc
    split at h
    · cases h
    · rename_i hs
      refine ⟨by simpa using hs,?_⟩
      rw [Array.getElem?_eq_some_iff] at hc
      exact hc.1
  · cases h
theorem cells_row {base:Nat} {a:Addr} {n:Nat} {ds:List Value} (h:W.cells? base a n = some ds):ds.length = n∧∀ j d,ds[j]? = some d→W.cell? (a.add j) = some d:=by
  unfold World.cells? at h
  split at h
  · obtain ⟨h1,h2⟩:=mapM_range h
    refine ⟨h1,fun j d hd=>?_⟩
    obtain ⟨b,h3,h4⟩:=h2 j (by rw [← h1]; exact (List.getElem?_eq_some_iff.1 hd).1)
    rw [h3] at hd
    rw [h4,hd]
  · cases h
theorem addr_add {a:Addr} (hs:a.spot = none) (n:Nat):a.add n = ⟨a.block,a.off + n,none⟩:=by
  unfold Addr.add
  cases a
  simp only at hs
  subst hs
  split
  · rename_i h; subst h; rfl
  · rfl
theorem enc_of_trod : ∀ (t : Ty),
    (∀ fuel id cs (d:DataW H) (p:List MemPlace),TOk P t id→argB P t id = true→DataW.trod enc P W base spare held fuel id cs = some (d,p)→(∀ n ∈ d.weights P id,n ≤ reachBytes)→∃ x,Enc W (GW W) t x cs) ∧
    (∀ fuel (r:List Field) (o:Nat) (cs:List Value) (xs:List (DataW H × List MemPlace)),FOk P t r o→fargB P t r = true→xs.length = r.length →
      (∀ (i:Nat) (f:Field),r[i]? = some f→DataW.trod enc P W base spare held fuel f.type ((cs.drop f.offset).take (P.cellsOf f.type)) = xs[i]?) →
      (∀ n ∈ DataW.weightsEach P (r.map (·.type)) (xs.map (·.1)),n ≤ reachBytes)→cs.length = o + t.sz→∃ x,Enc W (GW W) t x (cs.drop o)):=by
  intro t
  have nofld:∀ t,(∀ a b,t ≠ .cons a b)→t ≠ .nil→∀ (r:List Field) (o:Nat),¬ FOk P t r o:=by
    intro t h1 h2 r o h
    cases t <;> first | exact h1 _ _ rfl | exact h2 rfl | (cases r <;> exact h.elim)
  induction t with
  | int k =>
    refine ⟨fun fuel id cs d p hT _ h _=>?_,fun fuel r o cs xs h=>(nofld _ (by simp) (by simp) _ _ h).elim⟩
    obtain ⟨n,hcs,_,hw⟩:=DataW.trod_int hT.2 h
    simp only [Lit.wf,Bool.and_eq_true,decide_eq_true_eq] at hw
    exact ⟨(⟨n,wrap_eq_of_range hw⟩:I k),hcs⟩
  | bool =>
    refine ⟨fun fuel id cs d p hT _ h _=>?_,fun fuel r o cs xs h=>(nofld _ (by simp) (by simp) _ _ h).elim⟩
    obtain ⟨n,hcs,_⟩:=DataW.trod_bool hT.2 h
    exact ⟨n,hcs⟩
  | str =>
    refine ⟨fun fuel id cs d p hT _ h hw=>?_,fun fuel r o cs xs h=>(nofld _ (by simp) (by simp) _ _ h).elim⟩
    obtain ⟨s,hcs,hx,_⟩:=DataW.trod_string hT.2 h
    simp only [Prod.mk.injEq] at hx
    obtain ⟨rfl,rfl⟩:=hx
    refine ⟨strOf s,?_,?_⟩
    · rw [bytesOf_strOf]; exact hcs
    · have:=hw s.data.toList.length (by simp [DataW.weights])
      have h2:(strOf s).length = s.data.toList.length:=List.length_map _
      show (strOf s).length ≤ LIM
      rw [h2]
      simp only [reachBytes,LIM] at *
      omega
  | nil =>
    refine ⟨fun fuel id cs d p hT _ h hw=>?_,fun fuel r o cs xs h _ _ _ _ hl=>⟨(),?_⟩⟩
    · obtain ⟨xs,n,_,_,hl,_⟩:=DataW.trod_struct hT.2 h
      rw [hT.1] at hl
      exact ⟨(),List.eq_nil_of_length_eq_zero hl⟩
    · show cs.drop o = []
      simp only [Ty.sz,Nat.add_zero] at hl
      rw [List.drop_eq_nil_iff]; omega
  | cons a b iha ihb =>
    refine ⟨fun fuel id cs d p hT hA h hw=>?_,fun fuel r o cs xs hF hA hlen hf hw hl=>?_⟩
    · obtain ⟨hsz,fs,f,r,hu,hfs,hf0,hTa,hFb⟩:=hT
      obtain ⟨xs,n,_,hx,hl,hlen,hfx⟩:=DataW.trod_struct hu h
      simp only [Prod.mk.injEq] at hx
      obtain ⟨rfl,rfl⟩:=hx
      simp only [argB,hu,hfs,Bool.and_eq_true] at hA
      have hfl:∀ (i:Nat) (g:Field),(f :: r)[i]? = some g→DataW.trod enc P W base spare held n g.type ((cs.drop g.offset).take (P.cellsOf g.type)) = xs[i]?:=by
        intro i g hg
        refine hfx i g ?_
        rw [← Array.getElem?_toList,hfs]
        exact hg
      have hlen':xs.length = r.length + 1:=by rw [hlen,← Array.length_toList,hfs]; rfl
      match xs,hlen' with
      | y :: ys,hlen' =>
        simp only [DataW.weights,hu,hfs,List.map_cons,DataW.weightsEach,List.mem_append] at hw
        have h0:=hfl 0 f rfl
        simp only [List.getElem?_cons_zero] at h0
        rw [hf0,hTa.size,List.drop_zero] at h0
        obtain ⟨x,hx⟩:=iha.1 n f.type _ y.1 y.2 hTa hA.1 h0 (fun m hm=>hw m (.inl hm))
        obtain ⟨z,hz⟩:=ihb.2 n r a.sz cs ys hFb hA.2 (by simpa using hlen') (fun i g hg=>by simpa using hfl (i + 1) g hg) (fun m hm=>hw m (.inr hm)) (by rw [hl,hsz])
        exact ⟨(x,z),_,_,(List.take_append_drop a.sz cs).symm,hx,hz⟩
    · cases r with
      | nil=>exact hF.elim
      | cons f r =>
        obtain ⟨hf0,hTa,hFb⟩:=hF
        simp only [fargB,Bool.and_eq_true] at hA
        match xs,hlen with
        | y :: ys,hlen =>
          simp only [List.map_cons,DataW.weightsEach,List.mem_append] at hw
          have h0:=hf 0 f rfl
          simp only [List.getElem?_cons_zero] at h0
          rw [hf0,hTa.size] at h0
          simp only [Ty.sz] at hl
          obtain ⟨x,hx⟩:=iha.1 fuel f.type _ y.1 y.2 hTa hA.1 h0 (fun m hm=>hw m (.inl hm))
          obtain ⟨z,hz⟩:=ihb.2 fuel r (o + a.sz) cs ys hFb hA.2 (by simpa using hlen) (fun i g hg=>by simpa using hf (i + 1) g hg) (fun m hm=>hw m (.inr hm)) (by omega)
          refine ⟨(x,z),_,_,(List.take_append_drop a.sz (cs.drop o)).symm,hx,?_⟩
          rw [List.drop_drop]
          exact hz
  | arr n t ih =>
    refine ⟨fun fuel id cs d p hT hA h hw=>?_,fun fuel r o cs xs h=>(nofld _ (by simp) (by simp) _ _ h).elim⟩
    obtain ⟨hsz,e,hu,hTe⟩:=hT
    obtain ⟨xs,m,_,hx,hl,hlen,hfx⟩:=DataW.trod_array hu h
    simp only [Prod.mk.injEq] at hx
    obtain ⟨rfl,rfl⟩:=hx
    simp only [argB,hu] at hA
    simp only [DataW.weights,hu] at hw
    refine exists_arr n cs (by rw [hl,hsz]) fun i hi=>?_
    have h0:=hfx i hi
    rw [hTe.size,List.getElem?_eq_getElem (by omega)] at h0
    refine ih.1 m e _ (xs[i]'(by omega)).1 (xs[i]'(by omega)).2 hTe hA h0 fun k hk=>hw k (weightsAll_mem (i:=i) ?_ k hk)
    rw [List.getElem?_map,List.getElem?_eq_getElem (by omega)]; rfl
  | sl t ih =>
    refine ⟨fun fuel id cs d p hT hA h hw=>?_,fun fuel r o cs xs h=>(nofld _ (by simp) (by simp) _ _ h).elim⟩
    obtain ⟨hsz,e,hu,hTe⟩:=hT
    simp only [argB,hu,Bool.and_eq_true] at hA
    obtain ⟨hA1,hA2,hA⟩:=hA
    have hA1:=Nat.le_of_ble_eq_true hA1
    have hA2:=Nat.le_of_ble_eq_true hA2
    rcases DataW.trod_slice hu h with ⟨rfl,_⟩ | ⟨a,len,cap,elems,rest,m,_,rfl,hx,_,hlc,_,hel,hfx,_,_⟩
    · refine ⟨([]:List t.D),none,0,rfl,Nat.le_refl _,by simp,.inl rfl⟩
    · simp only [Prod.mk.injEq] at hx
      obtain ⟨rfl,rfl⟩:=hx
      simp only [DataW.weights,hu,List.mem_cons,List.mem_append] at hw
      have hb:=hw _ (.inl rfl)
      have hlim:len ≤ LIM:=by
        have h1:len ≤ (elems.length + rest.length) * P.bytesOf e:=by
          rw [← hel]
          refine Nat.le_trans ?_ (Nat.mul_le_mul_left _ hA2)
          omega
        simp only [List.length_map] at hb
        simp only [reachBytes,LIM] at *
        omega
      have key:∀ i,i < len→a.spot = none∧a.block < W.heap.size∧∃ x ds,Enc W (GW W) t x ds∧cellsAt W a.block (a.off + i * t.sz) ds:=by
        have one:∀ i,i < len→∃ (ds:List Value) (x:t.D),ds.length = t.sz∧Enc W (GW W) t x ds∧∀ j d,ds[j]? = some d→W.cell? ((a.add (i * t.sz)).add j) = some d:=by
          intro i hi
          have h0:=hfx i hi
          rw [List.getElem?_eq_getElem (by omega)] at h0
          simp only [Option.bind_eq_some_iff] at h0
          obtain ⟨ds,h1,h2⟩:=h0
          obtain ⟨h3,h4⟩:=cells_row h1
          rw [hTe.size] at h3 h4
          obtain ⟨x,hx⟩:=ih.1 m e ds (elems[i]'(by omega)).1 (elems[i]'(by omega)).2 hTe hA h2 fun k hk=>hw k (.inr (.inl (weightsAll_mem (i:=i) (by rw [List.getElem?_map,List.getElem?_eq_getElem (by omega)]; rfl) k hk)))
          exact ⟨ds,x,h3,hx,h4⟩
        intro i hi
        obtain ⟨ds,x,h1,h2,h3⟩:=one i hi
        obtain ⟨ds0,_,g1,_,g3⟩:=one 0 (by omega)
        have c0:=g3 0 (ds0[0]'(by omega)) (List.getElem?_eq_getElem _)
        simp only [Nat.zero_mul] at c0
        have e0:(a.add 0).add 0 = a:=by simp [Addr.add]
        rw [e0] at c0
        obtain ⟨hs,hlt⟩:=cell_lt c0
        refine ⟨hs,hlt,x,ds,h2,fun j d hd=>?_⟩
        have:=h3 j d hd
        rw [addr_add hs,addr_add rfl] at this
        exact this
      obtain ⟨l,hl1,hl2⟩:=exists_list len (fun i x=>∃ ds,Enc W (GW W) t x ds∧cellsAt W a.block (a.off + i * t.sz) ds) fun i hi=>(key i hi).2.2
      refine ⟨l,some a,cap,?_,?_,?_,?_⟩
      · show [Value.slice (some a) len cap] = [Value.slice (some a) l.length cap]; rw [hl1]
      · show l.length ≤ cap; omega
      · show l.length ≤ LIM; omega
      · by_cases h0:len = 0
        · left; show l = []; exact List.eq_nil_of_length_eq_zero (by omega)
        · obtain ⟨h1,h2,_⟩:=key 0 (by omega)
          exact .inr ⟨a,rfl,h1,h2,hl2⟩
  | opq=>exact ⟨fun fuel id cs d p hT hA=>by simp [argB] at hA,fun fuel r o cs xs h=>(nofld _ (by simp) (by simp) _ _ h).elim⟩
  | fnc=>exact ⟨fun fuel id cs d p hT hA=>by simp [argB] at hA,fun fuel r o cs xs h=>(nofld _ (by simp) (by simp) _ _ h).elim⟩
end
theorem val_of_ok {P:Program} {W:World} {rr:Reach} {base:Nat} {id:TypeId} {v:Value} {t:Ty} (hT:TOk P t id) (hne:t ≠ .opq) (hnf:t ≠ .fnc) (h:Value.okWide P W rr base id v):v = mkV t.isAgg v.cells.toList:=by
  have agg:(∃ cs,v = .agg cs)→v = mkV true v.cells.toList:=by
    rintro ⟨cs,rfl⟩
    show Value.agg cs = .agg _
    congr 1
  cases t with
  | int k=>obtain ⟨n,rfl⟩:=Go.WideShapes.okWide_int hT.2 h; rfl
  | bool=>obtain ⟨n,rfl⟩:=Go.WideShapes.okWide_bool hT.2 h; rfl
  | str=>obtain ⟨n,rfl⟩:=Go.WideShapes.okWide_string hT.2 h; rfl
  | sl t=>obtain ⟨_,e,hu,_⟩:=hT; obtain ⟨a,l,c,rfl⟩:=Go.WideShapes.okWide_slice hu h; rfl
  | opq=>exact (hne rfl).elim
  | fnc=>exact (hnf rfl).elim
  | nil=>obtain ⟨_,hu⟩:=hT; simp only [Value.okWide,hu] at h; exact agg ⟨_,h.choose_spec.1⟩
  | cons a b=>obtain ⟨_,fs,f,r,hu,_⟩:=hT; simp only [Value.okWide,hu] at h; exact agg ⟨_,h.choose_spec.1⟩
  | arr n t=>obtain ⟨_,e,hu,_⟩:=hT; simp only [Value.okWide,hu] at h; exact agg ⟨_,h.choose_spec.1⟩
def Arr.all {X:Type} (p:X→Prop):(n:Nat)→Arr X n→Prop
  | 0,_=>True
  | n + 1,x=>p x.1∧Arr.all p n x.2
def Ty.bd:(t:Ty)→t.D→Prop
  | .str,x=>(show List (I .u8) from x).length ≤ LIM
  | .cons a b,x=>a.bd x.1∧b.bd x.2
  | .arr n t,x=>Arr.all t.bd n x
  | .sl t,x=>(show List t.D from x).length ≤ LIM∧∀ (i:Nat) (y:t.D),(show List t.D from x)[i]? = some y→t.bd y
  | .int _,_=>True
  | .bool,_=>True
  | .nil,_=>True
  | .opq,_=>True
  | .fnc,_=>True
theorem EncArr_all {X:Type} {E:X→List Value→Prop} {p:X→Prop} (h:∀ x cs,E x cs→p x):∀ (n:Nat) (x:Arr X n) (cs:List Value),EncArr E n x cs→Arr.all p n x
  | 0,_,_,_=>trivial
  | n + 1,x,cs,he=>by
    obtain ⟨c1,c2,_,h1,h2⟩:=he
    exact ⟨h _ _ h1,EncArr_all h n x.2 c2 h2⟩
theorem Enc_bd {W:World} {G:Nat→Prop}:∀ (t:Ty) (x:t.D) (cs:List Value),Enc W G t x cs→t.bd x:=by
  intro t
  induction t with
  | int k=>intro x cs _; trivial
  | bool=>intro x cs _; trivial
  | nil=>intro x cs _; trivial
  | opq=>intro x cs _; trivial
  | fnc=>intro x cs _; trivial
  | str=>intro x cs h; exact h.2
  | cons a b iha ihb=>intro x cs h; obtain ⟨c1,c2,_,h1,h2⟩:=h; exact ⟨iha _ _ h1,ihb _ _ h2⟩
  | arr n t ih=>intro x cs h; exact EncArr_all (fun x cs=>ih x cs) n x cs h
  | sl t ih =>
    intro x cs h
    obtain ⟨a,c,_,_,hl,hx⟩:=h
    refine ⟨hl,fun i y hy=>?_⟩
    rcases hx with hx | ⟨ad,_,_,_,hr⟩
    · rw [hx] at hy; simp at hy
    · obtain ⟨ds,h1,_⟩:=hr i y hy
      exact ih y ds h1
def bdAll:(ts:List Ty)→ShD (ts.map .pl)→Prop
  | [],_=>True
  | t :: ts,x=>t.bd x.1∧bdAll ts x.2
def argsB (P:Program):List Ty→List TypeId→Bool
  | [],[]=>true
  | t :: ts,id :: ids=>tokB P t id && (argB P t id && (P.readableRec id && (Nat.blt id P.types.size && argsB P ts ids)))
  | _,_=>false
section
variable {H:Type} {enc:TypeId × Value→H} {P:Program} {W:World}
def cx0 (W:World):Cx:=⟨W,GW W,fun _=>.bool false,[]⟩
theorem args_val {rr : Reach} {base : Nat} : ∀ (ts : List Ty) (ids : List TypeId) (vs : List Value) (ds : List (DataW H)) (ps : List MemPlace), argsB P ts ids = true →
    DataW.TrodAll enc P W 0 (fun _=>true) true ids vs ds ps→(∀ (j:Nat) t v,ids[j]? = some t→vs[j]? = some v→Value.okWide P W rr base t v) →
    (∀ n ∈ DataW.weightsEach P ids ds,n ≤ reachBytes)→ds.length = ts.length∧∃ x:ShD (ts.map .pl),bdAll ts x∧All2 (VOk (cx0 W)) (mkSlots (ts.map .pl) x) vs
  | [],[],vs,ds,ps,_,hA,_,_=>by
    obtain ⟨rfl,rfl,rfl⟩:=Go.ChangeShapes.trodAll_nil hA
    exact ⟨rfl,(),trivial,trivial⟩
  | [],_ :: _,_,_,_,h,_,_,_=>by cases h
  | _ :: _,[],_,_,_,h,_,_,_=>by cases h
  | t :: ts,id :: ids,vs,ds,ps,h,hA,hv,hw=>by
    simp only [argsB,Bool.and_eq_true] at h
    obtain ⟨h1,h2,_,_,h5⟩:=h
    obtain ⟨v,vs',d,ds',p,q,rfl,rfl,rfl,⟨fuel,hd⟩,hrest⟩:=Go.ChangeShapes.trodAll_cons hA
    simp only [DataW.weightsEach,List.mem_append] at hw
    have hT:=(tok_both P t).1 id h1
    obtain ⟨x,hx⟩:=(enc_of_trod t).1 fuel id _ d p hT h2 hd fun n hn=>hw n (.inl hn)
    obtain ⟨hl,y,hbd,hy⟩:=args_val ts ids vs' ds' q h5 hrest (fun j t v ht hv'=>hv (j + 1) t v (by simpa using ht) (by simpa using hv')) fun n hn=>hw n (.inr hn)
    refine ⟨by simp [hl],(x,y),⟨Enc_bd t x _ hx,hbd⟩,?_,hy⟩
    refine ⟨_,hx,?_⟩
    exact val_of_ok hT (by rintro rfl; simp [argB] at h2) (by rintro rfl; simp [argB] at h2) (hv 0 id v rfl rfl)
theorem trodAll_below (hl : laidOutB P = true) {W' : World} (hb : Go.RowKit.Below W.heap.size W W') : ∀ (ts : List Ty) (ids : List TypeId) (vs : List Value) (ds : List (DataW H)) (ps : List MemPlace), argsB P ts ids = true →
    DataW.TrodAll enc P W 0 (fun _=>true) true ids vs ds ps→(∀ x ∈ ps,x.block < W.heap.size)→DataW.TrodAll enc P W' 0 (fun b=>decide (b < W.heap.size)) true ids vs ds ps
  | [],[],vs,ds,ps,_,hA,_=>by
    obtain ⟨rfl,rfl,rfl⟩:=Go.ChangeShapes.trodAll_nil hA
    exact Go.ChangeShapes.trodAll_mk0
  | [],_ :: _,_,_,_,h,_,_=>by cases h
  | _ :: _,[],_,_,_,h,_,_=>by cases h
  | t :: ts,id :: ids,vs,ds,ps,h,hA,hlt=>by
    simp only [argsB,Bool.and_eq_true] at h
    obtain ⟨_,_,h3,h4,h5⟩:=h
    obtain ⟨v,vs',d,ds',p,q,rfl,rfl,rfl,hd,hrest⟩:=Go.ChangeShapes.trodAll_cons hA
    refine ⟨p,q,Go.RowKit.Below.trod hl h3 (Nat.lt_of_succ_le (Nat.le_of_ble_eq_true h4)) hd hb fun x hx=>hlt x (by simp [hx]),?_,rfl⟩
    exact trodAll_below hl hb ts ids vs' ds' q h5 hrest fun x hx=>hlt x (by simp [hx])
theorem start0:Start (cx0 W):=by
  have hu:∀ b,blkAt (cx0 W).H b = .unborn:=fun b=>by simp [cx0,blkAt]
  refine ⟨fun b=>?_,fun b b' r h=>?_,fun r hr=>⟨hr,fun b h=>?_⟩⟩
  · unfold BlkOk; rw [hu]; trivial
  · rw [hu] at h; cases h
  · rw [hu] at h; cases h
theorem row_of_con2 {C : Checked} {f : FuncId} {fn : Func} {s : ChangeSpec} {ts : List Ty} {bt : TypeId} {F : (⟨ts.map .pl, []⟩ : Tm).D → Option (⟨[.pl .bool], []⟩ : Tm).D}
    (hl : laidOutB C.prog = true) (hfn : C.prog.funcs[f]? = some fn) (hbody : fn.body.isSome = true) (hname : (fn.name == "runtime.NumGoroutine") = false)
    (hargs:argsB C.prog ts fn.params.toList = true) (hres:fn.resultTypes = #[bt]) (hbt:C.prog.underlying bt = some .bool) (hvars:s.vars = [])
    (hs:∀ ds:List (DataW H),ds.length = ts.length→s.fn H ds = { results:=[.lit (.bool true)],args:=ds })
    (hcon:ConOk C.prog f ⟨⟨ts.map .pl,[]⟩,⟨[.pl .bool],[]⟩,F⟩)
    (base:Nat) (args:Array Value) (ds gs:List (DataW H)) (before:List MemPlace)
    (hval:∀ (j:Nat) t v,fn.params[j]? = some t→args[j]? = some v→Value.okWide C.prog W .any base t v)
    (hW:DataW.Whole enc C.prog fn.params.toList s.vars false W args.toList ds gs before)
    (hF:∀ x p,DataW.TrodAll enc C.prog W 0 (fun _=>true) true fn.params.toList args.toList ds p→bdAll ts x→All2 (VOk (cx0 W)) (mkSlots (ts.map .pl) x) args.toList→F (x,()) = some ((true,()),()))
    (hsz:(DataW.weightsEach C.prog (fn.params.toList ++ s.plain.varTypes C.prog) (ds ++ gs)).all (· ≤ reachBytes) = true) :
    Calls C.prog f args W fun e W'=>∃ v,e = .returned v∧s.post enc C.prog fn false true false false W args v W':=by
  have hW':=hW
  obtain ⟨p,q,hA,hV,rfl,hfz,hnd⟩:=hW
  rw [hvars] at hV
  obtain ⟨rfl,rfl⟩:=Go.ChangeShapes.trodVars_none hV
  have hvt:s.plain.varTypes C.prog = []:=by simp [DataSpec.varTypes,ChangeSpec.plain,hvars]
  rw [hvt,List.append_nil,List.append_nil,List.all_eq_true] at hsz
  obtain ⟨hlen,x,hbd,hx⟩:=args_val (P:=C.prog) ts fn.params.toList args.toList ds p hargs hA
    (fun j t v h1 h2=>hval j t v (by rw [← Array.getElem?_toList]; exact h1) (by rw [← Array.getElem?_toList]; exact h2)) fun n hn=>of_decide_eq_true (hsz n hn)
  have key:=hcon (x,()) ((true,()),()) (hF x p hA hbd hx) (cx0 W) args.toList start0 rfl hx
  rw [Array.toArray_toList] at key
  obtain ⟨b,hb⟩:=Option.isSome_iff_exists.1 hbody
  have hent:=run_callFunc (args:=args) (w:=W) hfn hb hname
  rcases key with ⟨v,w',h1,_⟩ | ⟨_,h⟩
  · change (callFunc f args).run C.prog W = _ at h1
    rw [hent] at h1
    cases h1
  · refine h.mono fun e w' hr=>?_
    obtain ⟨v,he,c',hw,hH,hv,hM,_⟩:=hr
    subst he hw
    refine ⟨v,rfl,?_⟩
    have hown:∀ r,¬ ownOf (cx0 W) r:=by
      rintro r ⟨b,hb,_⟩
      simp [cx0,blkAt,live] at hb
    have bel:Go.RowKit.Below W.heap.size W c'.w:=⟨hM.os,hM.tape,hM.output,hM.size,fun k hk=>hM.frame k hk (hown k)⟩
    obtain ⟨cs,hcs,hv⟩:=hv
    have hcs:cs = [.bool true]:=hcs
    subst hcs
    have hv:v = .bool true:=hv
    subst hv
    have hfnH:=hs ds hlen
    refine ⟨ds,[],_,[],p,[],hW',?_,?_,?_,bel.frame _,fun h=>by cases h⟩
    · rw [List.append_nil,hfnH,hres]
      exact Go.ChangeShapes.trodAll_mk1 (Go.RowKit.shut_bool hbt _)
    · rw [List.append_nil,hfnH]
      refine trodAll_below hl bel ts _ _ _ _ hargs hA fun x hx=>?_
      exact DataW.TrodAll.lt hA x hx
    · rw [List.append_nil,hfnH,hvars]
      rfl
theorem row_of_con {C : Checked} {f : FuncId} {fn : Func} {s : ChangeSpec} {ts : List Ty} {bt : TypeId} {F : (⟨ts.map .pl, []⟩ : Tm).D → Option (⟨[.pl .bool], []⟩ : Tm).D}
    (hl : laidOutB C.prog = true) (hfn : C.prog.funcs[f]? = some fn) (hbody : fn.body.isSome = true) (hname : (fn.name == "runtime.NumGoroutine") = false)
    (hargs:argsB C.prog ts fn.params.toList = true) (hres:fn.resultTypes = #[bt]) (hbt:C.prog.underlying bt = some .bool) (hvars:s.vars = [])
    (hs:∀ ds:List (DataW H),ds.length = ts.length→s.fn H ds = { results:=[.lit (.bool true)],args:=ds })
    (hcon:ConOk C.prog f ⟨⟨ts.map .pl,[]⟩,⟨[.pl .bool],[]⟩,F⟩) (hF:∀ x,bdAll ts x→F (x,()) = some ((true,()),()))
    (base:Nat) (args:Array Value) (ds gs:List (DataW H)) (before:List MemPlace)
    (hval:∀ (j:Nat) t v,fn.params[j]? = some t→args[j]? = some v→Value.okWide C.prog W .any base t v)
    (hW:DataW.Whole enc C.prog fn.params.toList s.vars false W args.toList ds gs before)
    (hsz:(DataW.weightsEach C.prog (fn.params.toList ++ s.plain.varTypes C.prog) (ds ++ gs)).all (· ≤ reachBytes) = true) :
    Calls C.prog f args W fun e W'=>∃ v,e = .returned v∧s.post enc C.prog fn false true false false W args v W' :=
  row_of_con2 hl hfn hbody hname hargs hres hbt hvars hs hcon base args ds gs before hval hW (fun x _ _ h _=>hF x h) hsz
end
end Sym

/- Facts of the program that the row of ExecutorNil wants, reckoned by the kernel one by one. -/
namespace Go.Proofs.YthmdmcdjjopaiaaGreat.executorNil
open Go.ChangeShapes Go.WideShapes Go.ChangeAt Go.RowKit Sym
theorem own:ownKnob Tryz.prog.godebug = none:=by kernel_rfl
theorem laidOut:laidOutB Tryz.prog = true:=by kernel_rfl
theorem c0:(Rows.executorNilRow.inPlace == Tryz.pinned.checked.prog.inPlace 4) = true:=by kernel_rfl
theorem c1:(Rows.executorNilRow.unfollowed == Tryz.pinned.checked.prog.unfollowed 4) = true:=by kernel_rfl
theorem c2:(Rows.executorNilRow.recurses == Tryz.pinned.checked.prog.recurses 4) = true:=by kernel_rfl
theorem c3:(Rows.executorNilRow.named == Tryz.pinned.checked.prog.varsNamed 4) = true:=by kernel_rfl
theorem c4:(mapsRowed Tryz.pinned.checked.prog) = true:=by kernel_rfl
theorem closed:joinedFacts Tryz.pinned.checked.prog 4 Tryz.f4 Rows.executorNilSpec Rows.executorNilRow = true:=by
  unfold joinedFacts
  rw [c0,c1,c2,c3,c4]
  kernel_rfl
end Go.Proofs.YthmdmcdjjopaiaaGreat.executorNil
