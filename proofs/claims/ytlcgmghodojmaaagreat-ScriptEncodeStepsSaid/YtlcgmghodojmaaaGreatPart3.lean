/- What a symbolic state says of the machine's; a region whose operations go in the order of the text. -/
import Derived.Laws.Sem
import Derived.Test.YtlcgmghodojmaaaGreatPart2
import Derived.Test.YtlcgmghodojmaaaGreatPart1
namespace Sym
open Go
structure Rep (base:World) (G0 own0:Nat→Prop) (sz:Nat) (fr:List (List Value)) (c:Cx) (st:St) (a:Act):Prop where
 mem:Mem base G0 own0 c
 heap:c.H=st.heap
 slots:All2 (VOk c) st.slots a.tmps.toList
 stk:All2 (All2 (VOk c)) st.stk fr
 size:a.tmps.size=sz
 defers:a.defers=[]
theorem All2.mono {X Y:Type} {R S:X→Y→Prop} (h:∀ a b,R a b→S a b):∀ (l:List X) (r:List Y),All2 R l r→All2 S l r
 | [],[],_=>trivial
 | x::l,y::r,hh=>⟨h _ _ hh.1,All2.mono h l r hh.2⟩
 | [],_::_,hh=>hh.elim
 | _::_,[],hh=>hh.elim
theorem All2.len {X Y:Type} {R:X→Y→Prop}:∀ {l:List X} {r:List Y},All2 R l r→l.length=r.length
 | [],[],_=>rfl
 | x::l,y::r,h=>by simp [All2.len h.2]
 | [],_::_,h=>h.elim
 | _::_,[],h=>h.elim
theorem c4S {c:Cx}:∀ {vs:List PV} {us:List Value} (t:Nat),All2 (VOk c) vs us→VOk c (a7S vs t) (us.getD t undef)
 | [],[],t,_=>by cases t<;>trivial
 | v::vs,u::us,0,h=>h.1
 | v::vs,u::us,t+1,h=>by
  have:=c4S t h.2
  simpa [a7S] using this
 | [],_::_,_,h=>h.elim
 | _::_,[],_,h=>h.elim
theorem e9U {c:Cx} {v:PV} {u:Value} (hv:VOk c v u):∀ {vs:List PV} {us:List Value} (t:Nat),All2 (VOk c) vs us→All2 (VOk c) (setAt vs t v) (us.set t u)
 | [],[],t,_=>trivial
 | _::_,_::_,0,h=>⟨hv,h.2⟩
 | _::_,_::_,t+1,h=>⟨h.1,e9U hv t h.2⟩
 | [],_::_,_,h=>h.elim
 | _::_,[],_,h=>h.elim
theorem getD_toList (a:Array Value) (t:Nat):a.getD t undef=a.toList.getD t undef:=by
 simp [Array.getD_eq_getD_getElem?]
theorem e9B {c:Cx} (vs:List PV) (v:Value):VOk c (opd vs (.const v)) v:=by
 cases v with
 | int k n =>
  simp only [opd]
  split
  ·
   rename_i h
   have h:=of_decide_eq_true h
   exact ⟨_,rfl,by show Value.int k n=.int k (k.wrap n); rw [h]⟩
  ·
   trivial
 | bool b=>exact ⟨_,rfl,rfl⟩
 | slice ad n cap =>
  unfold opd
  split<;>rename_i heq<;>first
   | trivial
   | (cases heq; done)
   | (cases heq; exact ⟨_,rfl,rfl⟩)
 | pointer ad=>cases ad with
  | none=>exact ⟨_,rfl,rfl⟩
  | some ad=>trivial
 | string s =>
  simp only [opd]
  split
  ·
   rename_i h
   have h:=Nat.le_of_ble_eq_true h
   refine ⟨_,⟨rfl,by show (List.map _ _).length≤LIM; rw [List.length_map]; simp only [LIM]; omega⟩,?_⟩
   show Value.string s=.string (bytesOf _)
   congr 1
   obtain ⟨⟨l⟩⟩:=s
   unfold bytesOf
   congr 1
   simp only [List.map_map]
   apply Array.ext'
   simp only
   symm
   rw [show l=l.map id by simp]
   simp only [List.map_map]
   apply List.map_congr_left
   intro b _
   have hb:b.toNat<256:=b.toNat_lt
   have:(I.of .u8 (b.toNat:Int)).val=b.toNat:=by
    show IntKind.u8.wrap b.toNat=b.toNat
    simp only [IntKind.wrap,IntKind.bits,IntKind.signed,Bool.false_and,Bool.false_eq_true,if_false]
    omega
   simp only [Function.comp_apply,this,id]
   simp
  ·
   trivial
 | _=>trivial
theorem g4P {c:Cx} {vs:List PV} {a:Act} (h:All2 (VOk c) vs a.tmps.toList) (x:Operand):VOk c (opd vs x) (a.eval x):=by
 cases x with
 | tmp t=>show VOk c (a7S vs t) (a.tmps.getD t undef); rw [getD_toList]; exact c4S t h
 | const v=>exact e9B vs v
 | global g=>exact trivial
 | func f=>exact ⟨_,rfl,rfl⟩
theorem g7F {c:Cx} {st:St} {a:Act} (h:All2 (VOk c) st.slots a.tmps.toList) (o:Oper):All2 (VOk c) (b4K o st) (o.op.operands.toList.map a.eval):=by
 unfold b4K
 generalize o.op.operands.toList=l
 induction l with
 | nil=>trivial
 | cons x l ih=>exact ⟨g4P h x,ih⟩
theorem f3D (a:Act) (d:Option Tmp) (v:Value):(a.put d v).tmps.toList=match d with | some d=>a.tmps.toList.set d v | none=>a.tmps.toList:=by
 cases d<;>simp [Act.put]
theorem e8Z (a:Act) (d:Option Tmp) (v:Value):(a.put d v).tmps.size=a.tmps.size:=by
 cases d<;>simp [Act.put]
theorem put_defers (a:Act) (d:Option Tmp) (v:Value):(a.put d v).defers=a.defers:=by
 cases d<;>rfl
section
variable {P:Program} {base:World} {G0 own0:Nat→Prop} {sz:Nat} {fr:List (List Value)}
theorem Rep.put {c c':Cx} {st:St} {a:Act} (h:Rep base G0 own0 sz fr c st a) (hE:Ext c c') (hM:Mem base G0 own0 c') {pv:PV} {v:Value} {δ:List (Nat×Blk)} (hH:c'.H=a2I c.H δ) (hv:VOk c' pv v) (d:Option Nat) :
  Rep base G0 own0 sz fr c' (st.put d pv δ) (a.put d v):=by
 refine ⟨hM,by rw [hH,h.heap]; rfl,?_,All2.mono (fun _ _ hl=>All2.mono (fun _ _=>d5F hE) _ _ hl) _ _ h.stk,by rw [e8Z]; exact h.size,by rw [put_defers]; exact h.defers⟩
 have h1:=All2.mono (fun _ _=>d5F hE) _ _ h.slots
 rw [f3D]
 cases d with
 | none=>exact h1
 | some d=>exact e9U hv d h1
theorem f1H:∀ (vs:List PV) (d:Nat),setAt vs d (a7S vs d)=vs
 | [],_=>rfl
 | _::_,0=>rfl
 | v::vs,d+1=>by simp [setAt,a7S,f1H vs d]
theorem e3C {c:Cx}:VOk c d0D undef:=⟨[],rfl,rfl⟩
theorem e0C {ops:Array Oper} {g d:Nat} (hd:e1Y ops g=some d) (tmps:Array Value):yielded ops tmps g=match tmps.getD d undef with | .bool b=>some b | _=>none:=by
 unfold yielded
 unfold e1Y at hd
 rw [hd]
 simp only [Option.bind_some]
 cases h:tmps[d]? with
 | none=>simp [Array.getD_eq_getD_getElem?,h,undef]
 | some v=>simp only [Array.getD_eq_getD_getElem?,h,Option.getD_some]; cases v<;>rfl
def GuardIs (ops:Array Oper) (o:Oper) (f:Nat→PV) (b:Bool):Prop :=
 ∀ (c:Cx) (tmps:Array Value),(∀ d∈o.looksAt ops,VOk c (f d) (tmps.getD d undef))→Region.wanted o (yielded ops tmps)=b
theorem e4V {R:Type} {T:R→Prop} {fail:R} (hf:¬ T fail) {ops:Array Oper} {o:Oper} {st:St} {run skip:St→R} (h:T (e8R fail ops o st run skip)) :
  (T (run st)∧GuardIs ops o (a7S st.slots) true)∨(T (skip st)∧GuardIs ops o (a7S st.slots) false):=by
 unfold e8R at h
 split at h
 ·
  rename_i hg
  exact .inl ⟨h,fun c tmps _=>by simp [Region.wanted,hg]⟩
 ·
  rename_i g want hg
  split at h
  ·
   exact absurd h hf
  ·
   rename_i d hd
   have hlook:d∈o.looksAt ops:=by
    unfold e1Y at hd
    simp [Oper.looksAt,hg,hd]
   split at h
   ·
    rename_i p hp
    have hset:∀ b,p=b→(⟨setAt st.slots d (.val .bool b),st.stk,st.heap⟩:St)=st:=by
     rintro b rfl
     rw [← hp,f1H]
    have hval:∀ (c:Cx) (tmps:Array Value),(∀ d∈o.looksAt ops,VOk c (a7S st.slots d) (tmps.getD d undef))→yielded ops tmps g=some (show Bool from p):=by
     intro c tmps hok
     have:=hok d hlook
     rw [hp] at this
     rw [e0C hd,d6G this]
    cases hpb:(show Bool from p) with
    | true =>
     simp only [hpb,brn,cond_true] at h
     rw [hset true hpb] at h
     cases want with
     | true=>exact .inl ⟨h,fun c tmps hok=>by simp [Region.wanted,hg,hval c tmps hok,hpb]⟩
     | false=>exact .inr ⟨h,fun c tmps hok=>by simp [Region.wanted,hg,hval c tmps hok,hpb]⟩
    | false =>
     simp only [hpb,brn,cond_false] at h
     rw [hset false hpb] at h
     cases want with
     | false=>exact .inl ⟨h,fun c tmps hok=>by simp [Region.wanted,hg,hval c tmps hok,hpb]⟩
     | true=>exact .inr ⟨h,fun c tmps hok=>by simp [Region.wanted,hg,hval c tmps hok,hpb]⟩
   ·
    rename_i hp
    refine .inr ⟨h,fun c tmps hok=>?_⟩
    have:=hok d hlook
    rw [hp] at this
    obtain ⟨vs,e,he⟩:=this
    have:vs=[]:=he
    subst this
    simp only [Region.wanted,hg]
    rw [e0C hd,e]
    simp
   ·
    exact absurd h hf
theorem GuardIs.of_rep {ops:Array Oper} {o:Oper} {c:Cx} {st:St} {a:Act} {b:Bool} (h:GuardIs ops o (a7S st.slots) b) (hs:All2 (VOk c) st.slots a.tmps.toList):Region.wanted o (yielded ops a.tmps)=b :=
 h c a.tmps fun d _=>by rw [getD_toList]; exact c4S d hs
def h6N (E:Env) (base:World) (G0 own0:Nat→Prop) (sz:Nat) (fr:List (List Value)) {R:Type} (T:R→Prop) (inl:Nat→FuncId→List PV→St→(PV→St→R)→R):Prop :=
 ∀ (i:Nat) (f:FuncId) (vs:List PV) (st:St) (next:PV→St→R) (c:Cx) (a:Act) (us:List Value) (Kw:Value→World→Prop),T (inl i f vs st next)→E.how f=some .inl→Rep base G0 own0 sz fr c st a→All2 (VOk c) vs us →
  (∀ pv st' c' v,T (next pv st')→Rep base G0 own0 sz fr c' st' a→VOk c' pv v→Kw v c'.w) →
  (callFunc f us.toArray).run E.P c.w=.ok (.enter f us.toArray) c.w∧Calls E.P f us.toArray c.w fun e w'=>∃ v,e=.returned v∧Kw v w'
theorem f0B {E:Env} (hE:EnvOk E) {R:Type} {T:R→Prop} {fail:R} (hf:¬ T fail) {inl:Nat→FuncId→List PV→St→(PV→St→R)→R} (hI:h6N E base G0 own0 sz fr T inl) (ops:Array Oper) {Q:Exit→Act→World→Prop} {K:St→R}
  (hK:∀ st c a,T (K st)→Rep base G0 own0 sz fr c st a→Q .normal a c.w):∀ (l:List Oper) (pre:List Oper) (st:St) (c:Cx) (a:Act),ops.toList=pre++l→T (e2Z E fail inl ops pre.length l st K)→Rep base G0 own0 sz fr c st a →
  wpOps E.P ops Q (List.range' pre.length l.length) a c.w:=by
 intro l
 induction l with
 | nil=>intro pre st c a _ h hr; exact hK st c a h hr
 | cons o l ih =>
  intro pre st c a ho h hr
  have hget:ops[pre.length]?=some o:=by
   rw [← Array.getElem?_toList,ho]
   simp
  have ho':ops.toList=(pre++[o])++l:=by simp [ho]
  have ih:=fun st c a h hr=>ih (pre++[o]) st c a ho' h hr
  simp only [List.length_append,List.length_singleton] at ih
  simp only [List.length_cons,List.range'_succ]
  simp only [wpOps,hget]
  simp only [e2Z] at h
  rcases e4V hf h with ⟨h,hg⟩ | ⟨h,hg⟩
  ·
   rw [if_pos (hg.of_rep hr.slots)]
   left
   have ha:=g7F hr.slots o
   split at h
   ·
    rename_i f vs hinl
    rw [← hr.heap] at hinl
    obtain ⟨hhow,us,hus,hex⟩:=g1K (fun id t h=>(hE.ty id t h).ok) hE.meth hr.mem hinl ha
    obtain ⟨h1,h2⟩:=hI pre.length f vs st _ c a us (fun v w'=>wpOps E.P ops Q (List.range' (pre.length+1) l.length) (a.put o.dst v) w') h hhow hr hus (fun pv st' c' v ht hr' hv=>ih _ _ _ ht (hr'.put (Ext.refl c') hr'.mem rfl hv o.dst))
    unfold Oper.wp
    rw [hex,h1]
    refine Calls.mono h2 ?_
    rintro e w' ⟨v,rfl,hv⟩
    exact hv
   ·
    split at h
    ·
     rename_i g C vs hvia
     rw [← hr.heap] at hvia
     obtain ⟨hhow,us,hus,hex⟩:=g2O (fun id t h=>(hE.ty id t h).ok) hE.meth hr.mem hvia ha
     obtain ⟨pv,δ,ht,hok⟩:=d9Y hf (hE.con _ _ hhow) h
     refine hok base G0 own0 o a c us hr.mem (fun b _=>by rw [hr.heap]) hus hex (fun p _ hp=>by rw [hr.heap]; exact b6S _ _ hp) (fun p _ _=>by rw [hr.heap]) _ _ fun v c' hE' hM' hH' hv=>?_
     exact ih _ _ _ ht (hr.put hE' hM' hH' hv o.dst)
    ·
     split at h
     ·
      rename_i op px hnil
      unfold h2O at hnil
      split at hnil
      ·
       rename_i op' id xo yo yt hop
       split at hnil
       ·
        rename_i px' hargs
        split at hnil
        ·
         rename_i t ht
         simp only [Option.some.injEq,Prod.mk.injEq] at hnil
         obtain ⟨rfl,rfl⟩:=hnil
         rw [hargs,hop] at ha
         have ha:All2 (VOk c) [px',.nils] [a.eval xo,a.eval yo]:=ha
         rw [← hr.heap] at h
         obtain ⟨hop2,ad,n,cap,e1,h⟩:=h0D hf hr.mem h ha.1
         have e2:a.eval yo=.slice none 0 0:=by
          obtain ⟨cs,k1,k2⟩:=ha.2.1
          simp only [a1J] at k1
          subst k1; exact k2
         obtain ⟨_,e,hu,_⟩:=(hE.ty _ _ ht).ok
         refine a1S hr.mem (f1R hu hop hop2 e1 e2 c.w) (b7C _) _ _ fun v c' hE' hM' hH' hv=>?_
         exact ih _ _ _ h (hr.put hE' hM' hH' hv o.dst)
        ·
         cases hnil
       ·
        cases hnil
      ·
       cases hnil
     ·
      obtain ⟨pv,δ,ht,hok⟩:=f4B hE hf h
      refine hok base G0 own0 a c hr.mem (fun b _=>by rw [hr.heap]) ha (fun p _ hp=>by rw [hr.heap]; exact b6S _ _ hp) (fun p _ _=>by rw [hr.heap]) _ _ fun v c' hE' hM' hH' hv=>?_
      exact ih _ _ _ ht (hr.put hE' hM' hH' hv o.dst)
  ·
   rw [if_neg (by rw [hg.of_rep hr.slots]; simp)]
   exact ih _ _ _ h (hr.put (Ext.refl c) hr.mem rfl e3C o.dst)
end
end Sym

/- A region whose operations may come in any order that its edges allow. -/
namespace Sym
open Go
section
variable {X:Type} (w:Nat→Nat→Option X) (init:Nat→X)
def c8L (L:Nat→Bool):Nat→Nat→X
 | 0,k=>init k
 | n+1,k=>match L n with
  | true=>match w n k with
   | some x=>x
   | none=>c8L L n k
  | false=>c8L L n k
theorem c0V {L L':Nat→Bool} {k:Nat}:∀ (n:Nat),(∀ j,j<n→L j≠L' j→w j k=none)→c8L w init L n k=c8L w init L' n k
 | 0,_=>rfl
 | n+1,h=>by
  have ih:=c0V n fun j hj=>h j (by omega)
  simp only [c8L]
  by_cases hn:L n=L' n
  ·
   rw [hn,ih]
  ·
   have:=h n (by omega) hn
   rw [this,ih]
   cases L n<;>cases L' n<;>rfl
theorem d0R {L L':Nat→Bool} {i k:Nat} (hi:L i=false) (hL':∀ j,L' j=if j=i then true else L j):∀ (n:Nat),i<n→(∀ j,i<j→j<n→L j=true→w j k=none∨w i k=none) →
  c8L w init L' n k=match w i k with | some x=>x | none=>c8L w init L n k:=by
 cases hw:w i k with
 | none =>
  intro n _ _
  refine c0V w init n fun j _ hne=>?_
  by_cases hji:j=i
  ·
   subst hji; exact hw
  ·
   rw [hL',if_neg hji] at hne; exact absurd rfl hne
 | some x =>
  intro n
  induction n with
  | zero=>intro h; omega
  | succ n ih =>
   intro hin h
   simp only [c8L]
   by_cases hn:n=i
   ·
    subst hn
    rw [hL',if_pos rfl,hw]
   ·
    have ih:=ih (by omega) fun j h1 h2=>h j h1 (by omega)
    simp only at ih
    rw [hL',if_neg hn]
    cases hLn:L n with
    | false=>exact ih
    | true =>
     have:=(h n (by omega) (by omega) hLn).resolve_right (by simp)
     simp only [this]
     exact ih
end
def lk:List (Nat×Blk)→Nat→Option Blk
 | [],_=>none
 | (i,x)::l,b=>match lk l b with
  | some y=>some y
  | none=>if b=i then some x else none
theorem d1Y:∀ (δ:List (Nat×Blk)) (H:List Blk) (b:Nat),a0L (a2I H δ) b=match lk δ b with | some x=>x | none=>a0L H b
 | [],_,_=>rfl
 | (i,x)::l,H,b=>by
  simp only [a2I,lk]
  rw [d1Y l]
  cases h:lk l b with
  | some y=>rfl
  | none =>
   simp only
   rw [a5R]
   split
   ·
    rfl
   ·
    rfl
theorem e3D:∀ (δ:List (Nat×Blk)) (b:Nat),b ∉ δ.map (·.1)→lk δ b=none
 | [],_,_=>rfl
 | (i,x)::l,b,h=>by
  simp only [List.map_cons,List.mem_cons,not_or] at h
  simp only [lk]
  rw [e3D l b h.2]
  simp [h.1]
def h3A (l r:List Nat):Prop:=∀ x,x∈l→x ∉ r
def h0F (m:Nat) (e:Ent) (rd wr:List Nat):Prop:=m.testBit e.i=true∨(h3A e.wr rd∧h3A e.wr wr∧h3A e.rd wr)
theorem f0M:∀ (b:Nat) (l:List Nat),f8X b l=true↔b∈l
 | b,[]=>by simp [f8X]
 | b,c::l=>by simp [f8X,f0M b l,Nat.beq_eq]
theorem e2R:∀ (l r:List Nat),g8Z l r=true→h3A l r
 | [],r,_,x,hx=>by simp at hx
 | b::l,r,h,x,hx=>by
  simp only [g8Z,Bool.and_eq_true,Bool.not_eq_true'] at h
  simp only [List.mem_cons] at hx
  rcases hx with rfl | hx
  ·
   intro hr; rw [(f0M x r).2 hr] at h; cases h.1
  ·
   exact e2R l r h.2 x hx
theorem e9Q:∀ (log:List Ent) (m:Nat) (rd wr:List Nat),g2S m rd wr log=true→∀ e∈log,h0F m e rd wr
 | [],_,_,_,_,e,he=>by simp at he
 | e0::log,m,rd,wr,h,e,he=>by
  simp only [g2S,Bool.and_eq_true,Bool.or_eq_true] at h
  simp only [List.mem_cons] at he
  rcases he with rfl | he
  ·
   exact h.1.imp id fun h=>⟨e2R _ _ h.1,e2R _ _ h.2.1,e2R _ _ h.2.2⟩
  ·
   exact e9Q log m rd wr h.2 e he
theorem e4B:∀ (l:List Oper) (acc:List Nat),∃ r,masks l acc=acc++r
 | [],acc=>⟨[],by simp [masks]⟩
 | o::l,acc=>by
  obtain ⟨r,hr⟩:=e4B l (acc++[d3F acc o])
  exact ⟨d3F acc o::r,by simp [masks,hr]⟩
theorem e5B:∀ (l:List Oper) (acc:List Nat) (j:Nat) (o:Oper),l[j]?=some o→(masks l acc).getD (acc.length+j) 0=d3F ((masks l acc).take (acc.length+j)) o
 | [],_,_,_,h=>by simp at h
 | o0::l,acc,0,o,h=>by
  simp only [List.getElem?_cons_zero,Option.some.injEq] at h
  subst h
  obtain ⟨r,hr⟩:=e4B l (acc++[d3F acc o0])
  simp only [masks,hr]
  simp
 | o0::l,acc,j+1,o,h=>by
  have:=e5B l (acc++[d3F acc o0]) j o (by simpa using h)
  simp only [List.length_append,List.length_singleton] at this
  simp only [masks]
  rw [show acc.length+(j+1)=acc.length+1+j by omega]
  exact this
theorem g2T (acc:List Nat) (o:Oper) (i:Nat) (h:(d3F acc o).testBit i=true):∃ e∈o.after,Region.binds .any e=true∧(i=e.on∨(acc.getD e.on 0).testBit i=true):=by
 unfold d3F at h
 have key:∀ (l:List Edge) (s:Nat),(l.foldl (fun s e=>match Region.binds .any e with | true=>(s ||| 2^e.on) ||| acc.getD e.on 0 | false=>s) s).testBit i=true→s.testBit i=true∨∃ e∈l,Region.binds .any e=true∧(i=e.on∨(acc.getD e.on 0).testBit i=true):=by
  intro l
  induction l with
  | nil=>intro s h; exact .inl h
  | cons e l ih =>
   intro s h
   simp only [List.foldl_cons] at h
   rcases ih _ h with h | ⟨e',he',h'⟩
   ·
    split at h
    ·
     rename_i hb
     simp only [Nat.testBit_or,Bool.or_eq_true,Nat.testBit_two_pow,decide_eq_true_eq] at h
     rcases h with (h | h) | h
     ·
      exact .inl h
     ·
      exact .inr ⟨e,by simp,hb,.inl h.symm⟩
     ·
      exact .inr ⟨e,by simp,hb,.inr h⟩
    ·
     exact .inl h
   ·
    exact .inr ⟨e',by simp [he'],h'⟩
 rcases key _ _ h with h | ⟨e,he,h⟩
 ·
  simp at h
 ·
  exact ⟨e,by simpa using he,h⟩
def Closed (ops:Array Oper) (L:Nat→Bool):Prop:=∀ j o,ops[j]?=some o→L j=true→∀ e∈o.after,Region.binds .any e=true→L e.on=true
theorem c9P {ops:Array Oper} {L:Nat→Bool} (hC:Closed ops L):∀ (j:Nat) (o:Oper),ops[j]?=some o→(∀ e∈o.after,Region.binds .any e=true→L e.on=true)→∀ i,((masks ops.toList []).getD j 0).testBit i=true→L i=true:=by
 intro j
 induction j using Nat.strongRecOn with
 | _ j ih =>
  intro o ho hd i hi
  have:=e5B ops.toList [] j o (by rw [Array.getElem?_toList]; exact ho)
  simp only [List.length_nil,Nat.zero_add] at this
  rw [this] at hi
  obtain ⟨e,he,hb,h⟩:=g2T _ _ _ hi
  rcases h with rfl | h
  ·
   exact hd e he hb
  ·
   by_cases hlt:e.on<j
   ·
    have hoe:∃ o',ops[e.on]?=some o':=by
     have:=(Array.getElem?_eq_some_iff.1 ho).1
     exact ⟨ops[e.on]'(by omega),Array.getElem?_eq_getElem (by omega)⟩
    obtain ⟨o',ho'⟩:=hoe
    refine ih e.on hlt o' ho' (hC e.on o' ho' (hd e he hb)) i ?_
    have:((masks ops.toList []).take j).getD e.on 0=(masks ops.toList []).getD e.on 0:=by
     simp [List.getD_eq_getElem?_getD,List.getElem?_take,hlt]
    rw [this] at h
    exact h
   ·
    have:((masks ops.toList []).take j).getD e.on 0=0:=by
     rw [List.getD_eq_getElem?_getD,List.getElem?_eq_none (by simp; omega)]
     rfl
    rw [this] at h
    simp at h
def cnt (L:Nat→Bool):Nat→Nat
 | 0=>0
 | n+1=>cnt L n+if L n then 0 else 1
theorem f8A {L L':Nat→Bool} {i:Nat} (hi:L i=false) (hL':∀ j,L' j=if j=i then true else L j):∀ (n:Nat),(i<n→cnt L' n+1=cnt L n)∧(n≤i→cnt L' n=cnt L n)
 | 0=>⟨fun h=>by omega,fun _=>rfl⟩
 | n+1=>by
  obtain ⟨h1,h2⟩:=f8A hi hL' n
  refine ⟨fun h=>?_,fun h=>?_⟩
  ·
   by_cases hn:n=i
   ·
    subst hn
    have:=h2 (Nat.le_refl _)
    simp [cnt,hL',hi,this]
   ·
    have:=h1 (by omega)
    simp only [cnt,hL',if_neg hn]
    omega
  ·
   have:=h2 (by omega)
   simp only [cnt,hL',if_neg (show n≠i by omega),this]
theorem f0E {L:Nat→Bool}:∀ (n:Nat),cnt L n=0→∀ j,j<n→L j=true
 | 0,_,j,h=>by omega
 | n+1,h,j,hj=>by
  simp only [cnt] at h
  by_cases hn:L n=true
  ·
   by_cases hjn:j=n
   ·
    subst hjn; exact hn
   ·
    exact f0E n (by omega) j (by omega)
  ·
   simp [hn] at h
theorem least {L:Nat→Bool} (n:Nat) (j:Nat) (hj:j<n) (h:L j=false):∃ i,i<n∧L i=false∧∀ k,k<i→L k=true:=by
 induction j using Nat.strongRecOn with
 | _ j ih =>
  by_cases hex:∃ k,k<j∧L k=false
  ·
   obtain ⟨k,h1,h2⟩:=hex
   exact ih k h1 (by omega) h2
  ·
   refine ⟨j,hj,h,fun k hk=>?_⟩
   cases hb:L k with
   | true=>rfl
   | false=>exact absurd ⟨k,hk,hb⟩ hex
end Sym

/- A region whose order is drawn: it does what the text's order does. -/
namespace Sym
open Go
section
variable {base:World} {G0 own0:Nat→Prop} {sz:Nat} {fr:List (List Value)}
structure Walk (E:Env) (ops:Array Oper) (ms:List Nat) (i n:Nat) (S:Nat→St) (rn:Nat→Bool) (pv:Nat→PV) (δ:Nat→List (Nat×Blk)):Prop where
 at_:∀ j,i≤j→j<n→∃ o,ops[j]?=some o∧S (j+1)=(S j).put o.dst (pv j) (δ j)∧GuardIs ops o (a7S (S j).slots) (rn j) ∧
  (rn j=true→h5I E o (b4K o (S j)) (f3M o (b4K o (S j)) (S j).heap) (S j).heap (S j).heap.length (pv j) (δ j))∧(rn j=false→pv j=d0D∧δ j=[])
 fine:∀ j k o o',i≤k→k<j→j<n→ops[j]?=some o→ops[k]?=some o'→rn k=true→rn j=true→h0F (ms.getD j 0) ⟨k,f3M o' (b4K o' (S k)) (S k).heap,(δ k).map (·.1)⟩ (f3M o (b4K o (S j)) (S j).heap) ((δ j).map (·.1))
theorem f6Z {E:Env} (hE:EnvOk E) {R:Type} {T:R→Prop} {fail:R} (hf:¬ T fail) (ops:Array Oper) (ms:List Nat) (suf:List Oper) {K:St→R} :
  ∀ (l pre:List Oper) (log:List Ent) (st:St),ops.toList=pre++(l++suf)→T (d3E E fail ops ms pre.length l log st K) →
  ∃ S rn pv δ,S pre.length=st∧T (K (S (pre.length+l.length)))∧Walk E ops ms pre.length (pre.length+l.length) S rn pv δ ∧
   ∀ j o,pre.length≤j→j<pre.length+l.length→ops[j]?=some o→rn j=true→∀ e∈log,h0F (ms.getD j 0) e (f3M o (b4K o (S j)) (S j).heap) ((δ j).map (·.1)):=by
 intro l
 induction l with
 | nil =>
  intro pre log st _ h
  exact ⟨fun _=>st,fun _=>true,fun _=>.undef,fun _=>[],rfl,h,⟨fun j h1 h2=>by simp at h2; omega,fun j k o o' h1 h2 h3=>by simp at h3; omega⟩,fun j o h1 h2=>by simp at h2; omega⟩
 | cons o l ih =>
  intro pre log st ho h
  have hget:ops[pre.length]?=some o:=by
   rw [← Array.getElem?_toList,ho]
   simp
  have ho':ops.toList=(pre++[o])++(l++suf):=by simp [ho]
  simp only [d3E] at h
  have build:∀ (log':List Ent) (b:Bool) (p:PV) (d:List (Nat×Blk)),T (d3E E fail ops ms (pre.length+1) l log' (st.put o.dst p d) K)→GuardIs ops o (a7S st.slots) b →
    (b=true→h5I E o (b4K o st) (f3M o (b4K o st) st.heap) st.heap st.heap.length p d∧log'=⟨pre.length,f3M o (b4K o st) st.heap,d.map (·.1)⟩::log∧∀ e∈log,h0F (ms.getD pre.length 0) e (f3M o (b4K o st) st.heap) (d.map (·.1))) →
    (b=false→p=d0D∧d=[]∧log'=log)→∃ S rn pv δ,S pre.length=st∧T (K (S (pre.length+(o::l).length)))∧Walk E ops ms pre.length (pre.length+(o::l).length) S rn pv δ ∧
   ∀ j o',pre.length≤j→j<pre.length+(o::l).length→ops[j]?=some o'→rn j=true→∀ e∈log,h0F (ms.getD j 0) e (f3M o' (b4K o' (S j)) (S j).heap) ((δ j).map (·.1)):=by
   intro log' b p d h hg hb1 hb0
   obtain ⟨S,rn,pv,δ,g1,g2,g3,g4⟩:=ih (pre++[o]) log' (st.put o.dst p d) ho' (by simpa using h)
   simp only [List.length_append,List.length_singleton] at g1 g2 g3 g4
   have hlen:pre.length+(o::l).length=pre.length+1+l.length:=by simp; omega
   have hlog:∀ e∈log,e∈log':=by
    intro e he
    cases b with
    | true=>rw [(hb1 rfl).2.1]; exact List.mem_cons_of_mem _ he
    | false=>rw [(hb0 rfl).2.2]; exact he
   rw [hlen]
   refine ⟨fun k=>if k=pre.length then st else S k,fun k=>if k=pre.length then b else rn k,fun k=>if k=pre.length then p else pv k,fun k=>if k=pre.length then d else δ k,by simp,?_,⟨?_,?_⟩,?_⟩
   ·
    simp only
    rw [if_neg (by omega)]
    exact g2
   ·
    intro j h1 h2
    by_cases hj:j=pre.length
    ·
     subst hj
     refine ⟨o,hget,?_,?_,?_,?_⟩
     ·
      simp [g1]
     ·
      simpa using hg
     ·
      intro hb
      simp only [if_true] at hb ⊢
      exact (hb1 hb).1
     ·
      intro hb
      simp only [if_true] at hb ⊢
      exact ⟨(hb0 hb).1,(hb0 hb).2.1⟩
    ·
     simp only [if_neg hj,if_neg (show j+1≠pre.length by omega)]
     exact g3.at_ j (by omega) h2
   ·
    intro j k q q' h1 h2 h3 hq hq' hk hj
    have hjn:j≠pre.length:=by omega
    simp only [if_neg hjn] at hj ⊢
    by_cases hkp:k=pre.length
    ·
     subst hkp
     simp only [if_true] at hk ⊢
     have:q'=o:=by rw [hget] at hq'; exact (Option.some.inj hq').symm
     subst this
     exact g4 j q (by omega) h3 hq hj _ (by rw [(hb1 hk).2.1]; simp)
    ·
     simp only [if_neg hkp] at hk ⊢
     exact g3.fine j k q q' (by omega) h2 h3 hq hq' hk hj
   ·
    intro j q h1 h2 hq hj e he
    by_cases hjp:j=pre.length
    ·
     subst hjp
     simp only [if_true] at hj ⊢
     have:q=o:=by rw [hget] at hq; exact (Option.some.inj hq).symm
     subst this
     exact (hb1 hj).2.2 e he
    ·
     simp only [if_neg hjp] at hj ⊢
     exact g4 j q (by omega) h2 hq hj e (hlog e he)
  rcases e4V hf h with ⟨h,hg⟩ | ⟨h,hg⟩
  ·
   obtain ⟨p,d,ht,hok⟩:=f4B hE hf h
   simp only at ht
   split at ht
   ·
    rename_i he
    exact build _ true p d ht hg (fun _=>⟨hok,rfl,e9Q _ _ _ _ he⟩) (fun h=>by cases h)
   ·
    exact absurd ht hf
  ·
   exact build _ false d0D [] h hg (fun h=>by cases h) (fun _=>⟨rfl,rfl,rfl⟩)
theorem g2L {c:Cx} {st:St} {ops:Array Oper} {o:Oper} {a:Act} (h:∀ d∈o.looksAt ops,VOk c (a7S st.slots d) (a.tmps.getD d undef)):All2 (VOk c) (b4K o st) (o.op.operands.toList.map a.eval):=by
 unfold b4K
 have key:∀ l:List Operand,(∀ t,Operand.tmp t∈l→VOk c (a7S st.slots t) (a.tmps.getD t undef))→All2 (VOk c) (l.map (opd st.slots)) (l.map a.eval):=by
  intro l
  induction l with
  | nil=>intro _; trivial
  | cons x l ih =>
   intro h
   refine ⟨?_,ih fun t ht=>h t (by simp [ht])⟩
   cases x with
   | tmp t=>exact h t (by simp)
   | const v=>exact e9B _ v
   | global g=>exact trivial
   | func f=>exact ⟨_,rfl,rfl⟩
 refine key _ fun t ht=>h t ?_
 unfold Oper.looksAt
 exact List.mem_append_left _ (List.mem_filterMap.2 ⟨.tmp t,ht,rfl⟩)
theorem e1B {ops:Array Oper} {ms:List Nat} (h:c9S ops ms=true) {i j:Nat} {x y:Oper} (hij:i<j) (hi:ops[i]?=some x) (hj:ops[j]?=some y) (hb:(ms.getD j 0).testBit i=false):Oper.apart ops x y=true:=by
 unfold c9S at h
 rw [List.all_eq_true] at h
 have:=h j (List.mem_range.2 (Array.getElem?_eq_some_iff.1 hj).1)
 simp only [hj,Bool.and_eq_true] at this
 have:=this.2
 rw [List.all_eq_true] at this
 have:=this i (List.mem_range.2 hij)
 simp only [hi,hb,Bool.false_or] at this
 exact this
theorem g5T {ops:Array Oper} {ms:List Nat} (h:c9S ops ms=true) {j:Nat} {y:Oper} (hj:ops[j]?=some y):∀ e∈y.after,Region.binds .any e=true→e.on<j:=by
 unfold c9S at h
 rw [List.all_eq_true] at h
 have:=h j (List.mem_range.2 (Array.getElem?_eq_some_iff.1 hj).1)
 simp only [hj,Bool.and_eq_true] at this
 have:=this.1
 rw [List.all_eq_true] at this
 intro e he hb
 have:=this e (by simpa using he)
 simp only [hb,Bool.not_true,Bool.false_or] at this
 exact Nat.le_of_ble_eq_true this
def wS (ops:Array Oper) (len:Nat) (pv:Nat→PV) (j d:Nat):Option PV :=
 match ops[j]? with
 | some o=>if o.dst=some d∧d<len then some (pv j) else none
 | none=>none
def wH (δ:Nat→List (Nat×Blk)) (j b:Nat):Option Blk:=lk (δ j) b
theorem d9G:∀ (vs:List PV) (d e:Nat) (v:PV),a7S (setAt vs d v) e=if e=d∧d<vs.length then v else a7S vs e
 | [],d,e,v=>by simp [setAt]
 | _::_,0,0,v=>by simp [setAt,a7S]
 | _::_,0,e+1,v=>by simp [setAt,a7S]
 | _::_,d+1,0,v=>by simp [setAt,a7S]
 | x::vs,d+1,e+1,v=>by simp [setAt,a7S,d9G vs d e v]
theorem f2U (st:St) (d:Option Nat) (p:PV) (δ:List (Nat×Blk)) (e:Nat):a7S (st.put d p δ).slots e=if d=some e∧e<st.slots.length then p else a7S st.slots e:=by
 cases d with
 | none=>simp [St.put,e2W]
 | some d =>
  simp only [St.put,e2W,d9G,Option.some.injEq]
  by_cases h:e=d
  ·
   subst h; simp
  ·
   rw [if_neg (by simp [h]),if_neg (by rintro ⟨h',_⟩; exact h h'.symm)]
theorem g6S (st:St) (d:Option Nat) (p:PV) (δ:List (Nat×Blk)):(st.put d p δ).slots.length=st.slots.length:=by
 cases d<;>simp [St.put,e2W,d1N]
theorem e4O {E:Env} {ops:Array Oper} {ms:List Nat} {n:Nat} {S:Nat→St} {rn:Nat→Bool} {pv:Nat→PV} {δ:Nat→List (Nat×Blk)} (hW:Walk E ops ms 0 n S rn pv δ):∀ i,i≤n →
  (S i).slots.length=(S 0).slots.length∧(S i).stk=(S 0).stk∧(∀ d,a7S (S i).slots d=c8L (wS ops (S 0).slots.length pv) (a7S (S 0).slots) (fun j=>decide (j<i)) n d) ∧
  ∀ b,a0L (S i).heap b=c8L (wH δ) (a0L (S 0).heap) (fun j=>decide (j<i)) n b:=by
 have zero:∀ {X:Type} (w:Nat→Nat→Option X) (init:Nat→X) (n k:Nat),c8L w init (fun j=>decide (j<0)) n k=init k:=by
  intro X w init n k
  induction n with
  | zero=>rfl
  | succ n ih=>simp [c8L] at ih ⊢; exact ih
 intro i
 induction i with
 | zero=>intro _; exact ⟨rfl,rfl,fun d=>(zero _ _ _ _).symm,fun b=>(zero _ _ _ _).symm⟩
 | succ i ih =>
  intro hi
  obtain ⟨h1,h2,h3,h4⟩:=ih (by omega)
  obtain ⟨o,ho,hS,_⟩:=hW.at_ i (Nat.zero_le _) (by omega)
  have hL:∀ j,(decide (j<i+1))=if j=i then true else decide (j<i):=by
   intro j
   by_cases hj:j=i
   ·
    simp [hj]
   ·
    rw [if_neg hj]
    by_cases hlt:j<i
    ·
     simp [hlt]; omega
    ·
     simp [hlt]; omega
  have hnot:decide (i<i)=false:=by simp
  refine ⟨by rw [hS,g6S,h1],by rw [hS]; exact h2,fun d=>?_,fun b=>?_⟩
  ·
   rw [hS,f2U,d0R _ _ (L:=fun j=>decide (j<i)) hnot hL n (by omega) (fun j h1 _ h=>by simp at h; omega),h3,h1]
   simp only [wS,ho]
   split<;>rfl
  ·
   rw [hS]
   show a0L (a2I (S i).heap (δ i)) b=_
   rw [d1Y,d0R _ _ (L:=fun j=>decide (j<i)) hnot hL n (by omega) (fun j h1 _ h=>by simp at h; omega),h4]
   cases h:lk (δ i) b<;>simp [wH,h]
end
end Sym

/- A region whose order is drawn: any order. -/
namespace Sym
open Go
theorem Mem.swap {base:World} {G0 own0:Nat→Prop} {c:Cx} (hM:Mem base G0 own0 c) {w':World} {H':List Blk} (hos:w'.os=c.w.os) (ht:w'.tape=c.w.tape) (ho:w'.output=c.w.output) (hh:w'.heap=c.w.heap) (hH:∀ b,a0L H' b=a0L c.H b) :
  Ext c (Cx.next base G0 w' c.ρ H')∧Mem base G0 own0 (Cx.next base G0 w' c.ρ H'):=by
 have hT:Turn base G0 own0 c (Cx.next base G0 w' c.ρ H') (fun _=>False) :=
  ⟨hos,ht,ho,by simp [Cx.next,hh],fun _ _=>rfl,fun b _=>hH b,fun r _ _=>by simp [Cx.next,hh],fun _ h=>h.elim,fun _ _ h=>h.elim,fun _ _ _ h=>h.elim,rfl⟩
 exact ⟨hT.ext hM,hT.mem hM fun b h=>h.elim⟩
theorem d1S {c:Cx}:∀ {vs:List PV} {us:List Value},vs.length=us.length→(∀ d,VOk c (a7S vs d) (us.getD d undef))→All2 (VOk c) vs us
 | [],[],_,_=>trivial
 | v::vs,u::us,h,hh=>⟨hh 0,d1S (by simpa using h) fun d=>by have:=hh (d+1); simpa [a7S] using this⟩
 | [],_::_,h,_=>by simp at h
 | _::_,[],h,_=>by simp at h
section
variable {base:World} {G0 own0:Nat→Prop} {sz:Nat} {fr:List (List Value)}
structure Inv (base:World) (G0 own0:Nat→Prop) (sz:Nat) (fr:List (List Value)) (ops:Array Oper) (n:Nat) (S0:St) (pv:Nat→PV) (δ:Nat→List (Nat×Blk)) (L:Nat→Bool) (c:Cx) (a:Act):Prop where
 mem:Mem base G0 own0 c
 heap:∀ b,a0L c.H b=c8L (wH δ) (a0L S0.heap) L n b
 slots:∀ d,VOk c (c8L (wS ops S0.slots.length pv) (a7S S0.slots) L n d) (a.tmps.getD d undef)
 stk:All2 (All2 (VOk c)) S0.stk fr
 size:a.tmps.size=sz
 len:S0.slots.length=sz
 defers:a.defers=[]
theorem g2R (a:Act) (d:Option Tmp) (v:Value) (e:Nat):(a.put d v).tmps.getD e undef=if d=some e∧e<a.tmps.size then v else a.tmps.getD e undef:=by
 cases d with
 | none=>simp [Act.put]
 | some d =>
  simp only [Act.put,Option.some.injEq,Array.getD_eq_getD_getElem?,Array.getElem?_setIfInBounds]
  by_cases h:d=e
  ·
   subst h
   by_cases h2:d<a.tmps.size
   ·
    simp [h2]
   ·
    simp [h2]
  ·
   rw [if_neg h,if_neg (by simp [h])]
theorem f3A {E:Env} (hE:EnvOk E) {ops:Array Oper} {S:Nat→St} {rn:Nat→Bool} {pv:Nat→PV} {δ:Nat→List (Nat×Blk)} (hA:c9S ops (masks ops.toList [])=true) {n:Nat} (hn:n≤ops.size) (hall0:n<ops.size→n+1=ops.size∧∀ j,j<n→((masks ops.toList []).getD n 0).testBit j=true) (hW:Walk E ops (masks ops.toList []) 0 n S rn pv δ)
  {Q:Exit→Act→World→Prop} (hQ:∀ c a,Rep base G0 own0 sz fr c (S n) a→if n<ops.size then wpOps E.P ops Q [n] a c.w else Q .normal a c.w) :
  ∀ (fuel:Nat) (listed:Array Bool) (a:Act) (c:Cx),listed.size=ops.size→cnt (fun j=>listed.getD j false) ops.size≤fuel→(n<ops.size→listed.getD n false=false)→Closed ops (fun j=>listed.getD j false)→Inv base G0 own0 sz fr ops n (S 0) pv δ (fun j=>listed.getD j false) c a→wpAny E.P .any ops Q fuel listed a c.w:=by
 have fin:∀ (listed:Array Bool) (a:Act) (c:Cx),(∀ j,j<n→listed.getD j false=true)→Inv base G0 own0 sz fr ops n (S 0) pv δ (fun j=>listed.getD j false) c a→if n<ops.size then wpOps E.P ops Q [n] a c.w else Q .normal a c.w:=by
  intro listed a c hall hI
  obtain ⟨h1,h2,h3,h4⟩:=e4O hW n (Nat.le_refl _)
  have hL:∀ j,j<n→(fun j=>decide (j<n)) j=(fun j=>listed.getD j false) j:=fun j hj=>by simp only [hall j hj]; simpa using hj
  obtain ⟨hE',hM'⟩:=hI.mem.swap (w':=c.w) (H':=(S n).heap) rfl rfl rfl rfl (fun b=>by rw [h4 b,hI.heap b]; exact c0V _ _ _ fun j hj hne=>absurd (hL j hj) hne)
  refine hQ (Cx.next base G0 c.w c.ρ (S n).heap) a ⟨hM',rfl,d1S (by rw [h1,hI.len,← hI.size]; simp) fun d=>?_,?_,hI.size,hI.defers⟩
  ·
   rw [← getD_toList,h3 d,c0V _ _ _ fun j hj hne=>absurd (hL j hj) hne]
   exact d5F hE' (hI.slots d)
  ·
   rw [h2]; exact All2.mono (fun _ _ hl=>All2.mono (fun _ _=>d5F hE') _ _ hl) _ _ hI.stk
 have getD_lt:∀ (listed:Array Bool) (j:Nat) (x y:Bool),j<listed.size→listed.getD j x=listed.getD j y:=fun listed j x y h=>by simp [h]
 intro fuel
 induction fuel with
 | zero =>
  intro listed a c hsz hc hlst hC hI
  have hall:=f0E ops.size (Nat.le_zero.1 hc)
  have hns:¬ n<ops.size:=fun h=>by have h2:listed.getD n false=true:=hall n h; rw [hlst h] at h2; cases h2
  have hfin:=fin listed a c (fun j hj=>hall j (by omega)) hI
  rw [if_neg hns] at hfin
  refine ⟨?_,hfin⟩
  rw [List.eq_nil_iff_forall_not_mem]
  intro j hj
  obtain ⟨h1,o,ho,_⟩:=mem_ready.1 hj
  have hlt:=(Array.getElem?_eq_some_iff.1 ho).1
  have h2:listed.getD j false=true:=hall j hlt
  rw [getD_lt listed j false true (by omega)] at h2
  rw [h1] at h2; cases h2
 | succ fuel ih =>
  intro listed a c hsz hc hlst hC hI
  refine ⟨fun hempty=>?_,fun i hi=>?_⟩
  ·
   have hj0:∀ j,j<ops.size→listed.getD j false=true:=fun j hj=>?_
   ·
    have hns:¬ n<ops.size:=fun h=>by have h2:=hj0 n h; rw [hlst h] at h2; cases h2
    have hfin:=fin listed a c (fun j hj=>hj0 j (by omega)) hI
    rw [if_neg hns] at hfin
    exact hfin
   cases hb:listed.getD j false with
   | true=>rfl
   | false =>
    obtain ⟨i,h1,h2,h3⟩:=least (L:=fun j=>listed.getD j false) ops.size j hj hb
    have:i∈Region.ready .any ops listed:=by
     refine mem_ready.2 ⟨by rw [getD_lt listed i true false (by omega)]; exact h2,ops[i],Array.getElem?_eq_getElem h1,fun e he hbd=>?_⟩
     exact h3 _ (g5T hA (Array.getElem?_eq_getElem h1) e he hbd)
    rw [hempty] at this; cases this
  ·
   obtain ⟨h1,o,ho,hd⟩:=mem_ready.1 hi
   have hlt:=(Array.getElem?_eq_some_iff.1 ho).1
   have hLi:listed.getD i false=false:=by rw [getD_lt listed i false true (by omega)]; exact h1
   by_cases hin:i<n
   case neg =>
    have hns:n<ops.size:=by omega
    obtain ⟨hn1,hmask⟩:=hall0 hns
    have hi':i=n:=by omega
    subst hi'
    have hpre:∀ j,j<i→listed.getD j false=true:=fun j hj=>c9P hC i o ho hd j (hmask j hj)
    have hfin:=fin listed a c hpre hI
    rw [if_pos hns,wpOps_cons] at hfin
    refine wpOp_mono (fun a' w' hq=>?_) hfin
    have hq:Q .normal a' w':=hq
    have hready:Region.ready .any ops (listed.setIfInBounds i true)=[]:=by
     rw [List.eq_nil_iff_forall_not_mem]
     intro j hj
     obtain ⟨g1,o2,g2,_⟩:=mem_ready.1 hj
     have hjlt:=(Array.getElem?_eq_some_iff.1 g2).1
     by_cases hji:j=i
     ·
      subst hji
      simp [show j<listed.size by omega] at g1
     ·
      rw [getD_set_ne true (fun h=>hji h.symm)] at g1
      have h3:=hpre j (by omega)
      rw [getD_lt listed j false true (by omega),g1] at h3
      cases h3
    cases fuel with
    | zero=>exact ⟨hready,hq⟩
    | succ f=>exact ⟨fun _=>hq,fun k hk=>by rw [hready] at hk; cases hk⟩
   obtain ⟨o',ho',hS,hG,hrun,hskip⟩:=hW.at_ i (Nat.zero_le _) hin
   have:o'=o:=by rw [ho] at ho'; exact (Option.some.inj ho').symm
   subst this
   obtain ⟨hlen,hstk,htS,htH⟩:=e4O hW i (by omega)
   have hun:∀ j,j<n→listed.getD j false≠decide (j<i)→(j<i∧((masks ops.toList []).getD i 0).testBit j=false)∨(i<j∧listed.getD j false=true∧((masks ops.toList []).getD j 0).testBit i=false):=by
    intro j hj hne
    by_cases hji:j<i
    ·
     left
     refine ⟨hji,?_⟩
     cases hb:((masks ops.toList []).getD i 0).testBit j with
     | false=>rfl
     | true =>
      have:listed.getD j false=true:=c9P hC i o' ho hd j hb
      rw [this] at hne
      simp [hji] at hne
    ·
     right
     have hLj:listed.getD j false=true:=by
      cases hb:listed.getD j false with
      | true=>rfl
      | false=>rw [hb] at hne; simp [hji] at hne
     have hij:i<j:=by
      rcases Nat.lt_or_ge i j with h | h
      ·
       exact h
      ·
       have:j=i:=by omega
       subst this; rw [hLi] at hLj; cases hLj
     refine ⟨hij,hLj,?_⟩
     cases hb:((masks ops.toList []).getD j 0).testBit i with
     | false=>rfl
     | true =>
      have hoj:=Array.getElem?_eq_getElem (show j<ops.size by omega)
      have:listed.getD i false=true:=c9P hC j _ hoj (hC j _ hoj hLj) i hb
      rw [hLi] at this; cases this
   have hlater:∀ j,i<j→j<n→listed.getD j false=true→((masks ops.toList []).getD j 0).testBit i=false:=by
    intro j hij hj hLj
    rcases hun j hj (by rw [hLj]; simp; omega) with h | h
    ·
     omega
    ·
     exact h.2.2
   have hslot:∀ d∈o'.looksAt ops,VOk c (a7S (S i).slots d) (a.tmps.getD d undef):=by
    intro d hdl
    rw [htS d,← c0V (wS ops (S 0).slots.length pv) (a7S (S 0).slots) (L:=fun j=>listed.getD j false) n fun j hj hne=>?_]
    ·
     exact hI.slots d
    ·
     have hoj:=Array.getElem?_eq_getElem (show j<ops.size by omega)
     simp only [wS,hoj]
     refine if_neg fun ⟨hdst,_⟩=>?_
     rcases hun j hj hne with ⟨hji,hb⟩ | ⟨hij,_,hb⟩
     ·
      exact (Oper.apart_spec (e1B hA hji hoj ho hb)).1 d hdst hdl
     ·
      exact (Oper.apart_spec (e1B hA hij ho hoj hb)).2.2 d hdst hdl
   have hheap:rn i=true→∀ b,(b∈f3M o' (b4K o' (S i)) (S i).heap∨b∈(δ i).map (·.1))→a0L c.H b=a0L (S i).heap b:=by
    intro hr b hb
    rw [hI.heap b,htH b]
    refine c0V _ _ _ fun j hj hne=>?_
    have hoj:=Array.getElem?_eq_getElem (show j<ops.size by omega)
    obtain ⟨oj,hoj',_,_,_,hsk⟩:=hW.at_ j (Nat.zero_le _) hj
    have:oj=ops[j]:=by rw [hoj] at hoj'; exact (Option.some.inj hoj').symm
    subst this
    cases hrj:rn j with
    | false=>simp [wH,(hsk hrj).2,lk]
    | true =>
     refine e3D _ _ fun hbj=>?_
     rcases hun j hj hne with ⟨hji,hbit⟩ | ⟨hij,_,hbit⟩
     ·
      have hfine:=(hW.fine i j o' _ (Nat.zero_le _) hji hin ho hoj hrj hr).resolve_left (by simp only; rw [hbit]; simp)
      rcases hb with hb | hb
      ·
       exact hfine.1 b hbj hb
      ·
       exact hfine.2.1 b hbj hb
     ·
      have hfine:=(hW.fine j i _ o' (Nat.zero_le _) hij hj hoj ho hr hrj).resolve_left (by simp only; rw [hbit]; simp)
      rcases hb with hb | hb
      ·
       exact hfine.2.2 b hb hbj
      ·
       exact hfine.2.1 b hb hbj
   have hL':∀ j,(listed.setIfInBounds i true).getD j false=if j=i then true else listed.getD j false:=by
    intro j
    by_cases hj:j=i
    ·
     subst hj
     rw [if_pos rfl]
     simp [show j<listed.size by omega]
    ·
     rw [if_neg hj,getD_set_ne false (fun h=>hj h.symm)]
   have after:∀ (v:Value) (c':Cx),Ext c c'→Mem base G0 own0 c'→c'.H=a2I c.H (δ i)→VOk c' (pv i) v→wpAny E.P .any ops Q fuel (listed.setIfInBounds i true) (a.put o'.dst v) c'.w:=by
    intro v c' hE' hM' hH' hv
    refine ih _ _ c' (by simp [hsz]) ?_ (fun h=>by rw [hL' n,if_neg (by omega)]; exact hlst h) ?_ ?_
    ·
     have:=(f8A (L:=fun j=>listed.getD j false) (L':=fun j=>(listed.setIfInBounds i true).getD j false) hLi hL' ops.size).1 hlt
     omega
    ·
     intro j oj hoj hLj e he hb
     simp only at hLj ⊢
     rw [hL'] at hLj ⊢
     split
     ·
      rfl
     ·
      by_cases hji:j=i
      ·
       subst hji
       have:oj=o':=by rw [ho] at hoj; exact (Option.some.inj hoj).symm
       subst this
       exact hd e he hb
      ·
       rw [if_neg hji] at hLj
       exact hC j oj hoj hLj e he hb
    ·
     refine ⟨hM',fun b=>?_,fun d=>?_,All2.mono (fun _ _ hl=>All2.mono (fun _ _=>d5F hE') _ _ hl) _ _ hI.stk,by rw [e8Z]; exact hI.size,hI.len,by rw [put_defers]; exact hI.defers⟩
     ·
      rw [hH',d1Y,hI.heap b,d0R (wH δ) (a0L (S 0).heap) (L:=fun j=>listed.getD j false) (L':=fun j=>(listed.setIfInBounds i true).getD j false) hLi hL' n hin fun j hij hj hLj=>?_]
      ·
       cases h:lk (δ i) b<;>simp [wH,h]
      ·
       have hoj:=Array.getElem?_eq_getElem (show j<ops.size by omega)
       obtain ⟨oj,hoj',_,_,_,hsk⟩:=hW.at_ j (Nat.zero_le _) hj
       have:oj=ops[j]:=by rw [hoj] at hoj'; exact (Option.some.inj hoj').symm
       subst this
       cases hrj:rn j with
       | false=>left; simp [wH,(hsk hrj).2,lk]
       | true =>
        cases hri:rn i with
        | false=>right; simp [wH,(hskip hri).2,lk]
        | true =>
         have hfine:=(hW.fine j i _ o' (Nat.zero_le _) hij hj hoj ho hri hrj).resolve_left (by simp only; rw [hlater j hij hj hLj]; simp)
         by_cases hb:b∈(δ i).map (·.1)
         ·
          exact .inl (e3D _ _ (hfine.2.1 b hb))
         ·
          exact .inr (e3D _ _ hb)
     ·
      rw [d0R (wS ops (S 0).slots.length pv) (a7S (S 0).slots) (L:=fun j=>listed.getD j false) (L':=fun j=>(listed.setIfInBounds i true).getD j false) hLi hL' n hin fun j hij hj hLj=>?_,g2R]
      ·
       simp only [wS,ho]
       have hsize:=hI.size
       have hl:=hI.len
       by_cases hdd:o'.dst=some d∧d<(S 0).slots.length
       ·
        rw [if_pos hdd,if_pos (by rw [hsize,← hl]; exact hdd)]
        exact hv
       ·
        rw [if_neg hdd,if_neg (by rw [hsize,← hl]; exact hdd)]
        exact d5F hE' (hI.slots d)
      ·
       have hoj:=Array.getElem?_eq_getElem (show j<ops.size by omega)
       have hap:=Oper.apart_spec (e1B hA hij ho hoj (hlater j hij hj hLj))
       simp only [wS,hoj,ho]
       by_cases hdd:o'.dst=some d
       ·
        left; exact if_neg fun h=>hap.2.1 d hdd h.1
       ·
        right; exact if_neg fun h=>hdd h.1
   unfold wpOp
   simp only [ho]
   have hw:=hG c a.tmps hslot
   cases hr:rn i with
   | true =>
    rw [hr] at hw
    rw [if_pos hw]
    left
    refine hrun hr base G0 own0 a c hI.mem (fun b hb=>hheap hr b (.inl hb)) (g2L hslot) (fun p hp hge=>?_) (fun p hp _=>hheap hr p.1 (.inr (List.mem_map_of_mem hp))) _ _ after
    rw [hheap hr p.1 (.inr (List.mem_map_of_mem hp))]
    exact b6S _ _ hge
   | false =>
    rw [hr] at hw
    rw [if_neg (by rw [hw]; simp)]
    obtain ⟨e1,e2⟩:=hskip hr
    exact after undef c (Ext.refl c) hI.mem (by rw [e2]; rfl) (by rw [e1]; exact e3C)
theorem e3R {E:Env} (hE:EnvOk E) {R:Type} {T:R→Prop} {fail:R} (hf:¬ T fail) {ops:Array Oper} {id:Nat} {Q:Exit→Act→World→Prop} {K:St→R} (hA:c9S ops (masks ops.toList [])=true)
  {ini suf:List Oper} (hops:ops.toList=ini++suf) (hall0:ini.length<ops.size→ini.length+1=ops.size∧∀ j,j<ini.length→((masks ops.toList []).getD ini.length 0).testBit j=true)
  (hK:∀ st c a,T (K st)→Rep base G0 own0 sz fr c st a→if ini.length<ops.size then wpOps E.P ops Q [ini.length] a c.w else Q .normal a c.w) {st:St} {c:Cx} {a:Act} (h:T (d3E E fail ops (masks ops.toList []) 0 ini [] st K)) (hr:Rep base G0 own0 sz fr c st a) :
  (Code.region id ops true).wp E.P Q a c.w:=by
 obtain ⟨S,rn,pv,δ,h0,hT,hW,_⟩:=f6Z hE hf ops (masks ops.toList []) suf ini [] [] st (by simpa using hops) h
 simp only [List.length_nil,Nat.zero_add] at h0 hT hW
 have hle:ini.length≤ops.size:=by
  have:=congrArg List.length hops
  simp only [List.length_append,Array.length_toList] at this
  omega
 refine wp_region_any hE.mixed ?_
 obtain ⟨hE',hM'⟩:=hr.mem.swap (w':={ c.w with drawn:=c.w.drawn+1 }) (H':=c.H) rfl rfl rfl rfl (fun _=>rfl)
 refine f3A hE hA hle hall0 hW (fun c a hr=>hK _ _ _ hT hr) ops.size (Array.replicate ops.size false) a (Cx.next base G0 { c.w with drawn:=c.w.drawn+1 } c.ρ c.H) (by simp) ?_ (fun h=>by simp [Array.getD_eq_getD_getElem?,Array.getElem?_replicate,h]) ?_ ?_
 ·
  have:∀ (L:Nat→Bool) (n:Nat),cnt L n≤n:=by
   intro L n
   induction n with
   | zero=>exact Nat.le_refl _
   | succ n ih=>simp only [cnt]; split<;>omega
  exact this _ _
 ·
  intro j o ho hL
  exfalso
  simp [Array.getD_eq_getD_getElem?,Array.getElem?_replicate] at hL
  split at hL<;>simp at hL
 ·
  have hz:∀ {X:Type} (w:Nat→Nat→Option X) (init:Nat→X) (n k:Nat),c8L w init (fun j=>(Array.replicate ops.size false).getD j false) n k=init k:=by
   intro X w init n k
   induction n with
   | zero=>rfl
   | succ n ih =>
    have:(Array.replicate ops.size false).getD n false=false:=by
     simp only [Array.getD_eq_getD_getElem?,Array.getElem?_replicate]
     split<;>rfl
    simp only [c8L,this]
    exact ih
  subst h0
  refine ⟨hM',fun b=>by rw [hz]; show a0L c.H b=_; rw [hr.heap],fun d=>?_,All2.mono (fun _ _ hl=>All2.mono (fun _ _=>d5F hE') _ _ hl) _ _ hr.stk,hr.size,by rw [All2.len hr.slots,← hr.size]; simp,hr.defers⟩
  rw [hz,getD_toList]
  exact d5F hE' (c4S d hr.slots)
end
end Sym

/- The evaluator of code tells what the machine does. -/
namespace Sym
open Go
def e0J (P:Program) (c:Code) (Q:Exit→Act→World→Prop) (a:Act) (w:World):Prop :=
 ∀ (b:Frame) (k:List Item) (cs:List Frame),∃ e a' w',Q e a' w'∧Arrives P (lone (b.at a (.inLoop c::k)) cs w) b k cs e a' w'
theorem e3K {P:Program} {c:Code} {Q:Exit→Act→World→Prop} {a:Act} {w:World} (h:c.wp P (Exit.then (e0J P c Q) Q) a w) :
  (∀ (b:Frame) (k:List Item) (cs:List Frame),∃ e a' w',Q e a' w'∧Arrives P (lone (b.at a (.code c::.inLoop c::k)) cs w) b k cs e a' w'):=by
 intro b k cs
 obtain ⟨e,a1,w1,hq,harr⟩:=h b (.inLoop c::k) cs
 cases e with
 | normal =>
  obtain ⟨e2,a2,w2,hq2,harr2⟩:=hq b k cs
  exact ⟨e2,a2,w2,hq2,.of_steps harr harr2⟩
 | exit id=>exact ⟨_,a1,w1,hq,.pass (x:=.inLoop c) rfl (fun _ _=>.inl (by simp)) harr⟩
 | goto l=>exact ⟨_,a1,w1,hq,.pass (x:=.inLoop c) rfl (fun _ _=>.inl (by simp)) harr⟩
 | ret=>exact ⟨_,a1,w1,hq,.pass (x:=.inLoop c) rfl (fun _ _=>.inl (by simp)) harr⟩
 | panic ch=>exact ⟨_,a1,w1,hq,.pass (x:=.inLoop c) rfl (fun _ _=>.inl (by simp)) harr⟩
 | outgrown=>exact ⟨_,a1,w1,hq,.pass (x:=.inLoop c) rfl (fun _ _=>.inl (by simp)) harr⟩
theorem e5S {P:Program} {c:Code} {Q:Exit→Act→World→Prop} {a:Act} {w:World} (h:c.wp P (Exit.then (e0J P c Q) Q) a w):e0J P c Q a w:=by
 intro b k cs
 obtain ⟨e,a',w',hq,harr⟩:=e3K h b k cs
 exact ⟨e,a',w',hq,.of_steps (.one step_inLoop) harr⟩
theorem f4O {P:Program} {c:Code} {Q:Exit→Act→World→Prop} {a:Act} {w:World} (h:c.wp P (Exit.then (e0J P c Q) Q) a w):(Code.loop c).wp P Q a w:=by
 intro b k cs
 obtain ⟨e,a',w',hq,harr⟩:=e3K h b k cs
 exact ⟨e,a',w',hq,.of_steps (.one step_loop) harr⟩
section
variable {base:World} {G0 own0:Nat→Prop} {sz:Nat} {fr:List (List Value)}
structure KOk (base:World) (G0 own0:Nat→Prop) (sz:Nat) (fr:List (List Value)) {R:Type} (T:R→Prop) (K:Kt R) (Q:Exit→Act→World→Prop):Prop where
 norm:∀ st c a,T (K.norm st)→Rep base G0 own0 sz fr c st a→Q .normal a c.w
 exit:∀ i st c a,T (K.exit i st)→Rep base G0 own0 sz fr c st a→Q (.exit i) a c.w
 ret:∀ st c a,T (K.ret st)→Rep base G0 own0 sz fr c st a→Q .ret a c.w
theorem d4B {X Y:Type} {R:X→Y→Prop}:∀ {l:List X} {r:List Y} {l':List X} {r':List Y},All2 R l r→All2 R l' r'→All2 R (l++l') (r++r')
 | [],[],_,_,_,h=>h
 | _::_,_::_,_,_,h,h'=>⟨h.1,d4B h.2 h'⟩
 | [],_::_,_,_,h,_=>h.elim
 | _::_,[],_,_,h,_=>h.elim
theorem d5T {X Y:Type} {R:X→Y→Prop}:∀ (n:Nat) {l:List X} {r:List Y},All2 R l r→All2 R (l.take n) (r.take n)∧All2 R (l.drop n) (r.drop n)
 | 0,_,_,h=>⟨by simp only [List.take_zero]; trivial,by simpa using h⟩
 | n+1,[],[],_=>⟨trivial,trivial⟩
 | n+1,_::_,_::_,h=>⟨⟨h.1,(d5T n h.2).1⟩,(d5T n h.2).2⟩
 | _+1,[],_::_,h=>h.elim
 | _+1,_::_,[],h=>h.elim
theorem e3S {c:Cx}:∀ {l:List (List PV)} {r:List (List Value)},All2 (All2 (VOk c)) l r→All2 (VOk c) l.flatten r.flatten
 | [],[],_=>trivial
 | _::_,_::_,h=>d4B h.1 (e3S h.2)
 | [],_::_,h=>h.elim
 | _::_,[],h=>h.elim
theorem e8N {c:Cx}:∀ (r:List (List Value)) (l:List PV),All2 (VOk c) l r.flatten→All2 (All2 (VOk c)) (d4Y (r.map List.length) l) r
 | [],l,h=>trivial
 | u::r,l,h=>by
  simp only [List.flatten_cons] at h
  obtain ⟨h1,h2⟩:=d5T u.length h
  rw [List.take_left' rfl] at h1
  rw [List.drop_left' rfl] at h2
  exact ⟨h1,e8N r _ h2⟩
theorem e1F {B B':Blk} (h:c0A B B'):live B=live B':=by
 cases B<;>cases B'<;>first | rfl | exact h.elim | (simp [c0A] at h)
theorem d5C {c:Cx} (hM:Mem base G0 own0 c) {τ:Tm} {vs:List PV} {x:τ.D} {m0 m:Mt} (h:τ.extF m0 vs c.H=some (x,m)) :
  Mle m0 m∧∃ c',(∀ i j,m.σ.get i=some j→c'.ρ i=c.ρ j)∧(∀ i j,m.σ.get i=some j→c0A (a0L (a3K τ.heap x.2) i) (a0L c.H j))∧c'.w=c.w∧c'.H=a3K τ.heap x.2∧Mem base G0 own0 c'∧∀ us,All2 (VOk c) vs us→∃ us',us=us'++us.drop τ.slots.length∧us'.length=τ.slots.length∧All2 (VOk c') (a1W τ.slots x.1) us':=by
 obtain ⟨t0,t1,t2,t3,t4,t5,t6⟩:=f6E hM.blk h
 let ρ':Nat→Value:=fun i=>match m.σ.get i with | some j=>c.ρ j | none=>.bool false
 have hlive:∀ i,live (a0L (a3K τ.heap x.2) i)=true→∃ j,m.σ.get i=some j∧live (a0L c.H j)=true:=by
  intro i hi
  have hlt:i<τ.heap.length:=by
   rcases Nat.lt_or_ge i τ.heap.length with h | h
   ·
    exact h
   ·
    rw [b6S _ _ (by rw [b0S]; exact h)] at hi; cases hi
  obtain ⟨j,hj⟩:=t3 i hlt
  exact ⟨j,hj,by rw [← e1F (t5 i j hj)]; exact hi⟩
 have hG:∀ r,b3D c m.lent r→Gof base G0 c.w ρ' (a3K τ.heap x.2) r:=by
  intro r hr
  have hbase:(G0 r∨base.heap.size≤r)∧r<c.w.heap.size:=by
   rcases hr with hr | ⟨b,hb,hl,he⟩
   ·
    rw [hM.G] at hr; exact ⟨hr.1,hr.2.1⟩
   ·
    refine ⟨?_,(hM.blk b).lt hl he⟩
    rcases hM.own b r hl he with h | h
    ·
     exact .inl (hM.sub r h)
    ·
     exact .inr h
  refine ⟨hbase.1,hbase.2,fun i hi he=>?_⟩
  obtain ⟨j,hj,hlj⟩:=hlive i hi
  simp only [ρ',hj] at he
  rcases hr with hr | ⟨b,hb,hl,he'⟩
  ·
   rw [hM.G] at hr
   exact hr.2.2 j hlj he
  ·
   have:b=j:=hM.inj b j r hl hlj he' he
   subst this
   have:=(t1 b hb).1
   rw [c0Y m.σ i b hj] at this
   cases this
 obtain ⟨hblk,hargs⟩:=t6 _ hG
 refine ⟨t0,b2T c τ x m (Gof base G0 c.w ρ' (a3K τ.heap x.2)),fun i j hij=>by simp [b2T,hij],t5,rfl,rfl,⟨hM.os,hM.tape,hM.output,hM.size,hM.frame,hblk,fun i i' r hi hi' he he'=>?_,fun i r hi he=>?_,rfl,hM.sub⟩,hargs⟩
 ·
  obtain ⟨j,hj,hlj⟩:=hlive i hi
  obtain ⟨j',hj',hlj'⟩:=hlive i' hi'
  simp only [b2T,hj] at he
  simp only [b2T,hj'] at he'
  have:=hM.inj j j' r hlj hlj' he he'
  subst this
  exact t4 i i' j hj hj'
 ·
  obtain ⟨j,hj,hlj⟩:=hlive i hi
  simp only [b2T,hj] at he
  exact hM.own j r hlj he
theorem g1C {c:Cx} (hM:Mem base G0 own0 c) {τ:Tm} {vs:List PV} {x:τ.D} {m:Mt} (h:τ.ext vs c.H=some (x,m)) :
  ∃ c',c'.w=c.w∧c'.H=a3K τ.heap x.2∧Mem base G0 own0 c'∧∀ us,All2 (VOk c) vs us→∃ us',us=us'++us.drop τ.slots.length∧us'.length=τ.slots.length∧All2 (VOk c') (a1W τ.slots x.1) us':=by
 obtain ⟨_,c',_,_,h⟩:=d5C hM h
 exact ⟨c',h⟩
theorem Rep.lens {c:Cx} {st:St} {a:Act} (h:Rep base G0 own0 sz fr c st a):st.lens=sz::fr.map List.length:=by
 have h1:=All2.len h.slots
 have h2:∀ {l:List (List PV)} {r:List (List Value)},All2 (All2 (VOk c)) l r→l.map List.length=r.map List.length:=by
  intro l
  induction l with
  | nil=>intro r h; cases r with | nil=>rfl | cons _ _=>exact h.elim
  | cons x l ih=>intro r h; cases r with | nil=>exact h.elim | cons y r=>simp [All2.len h.1,ih h.2]
 simp only [St.lens,h1,h2 h.stk,Array.length_toList,h.size]
theorem Rep.flat {c:Cx} {st:St} {a:Act} (h:Rep base G0 own0 sz fr c st a):All2 (VOk c) st.flat (a.tmps.toList++fr.flatten):=d4B h.slots (e3S h.stk)
theorem Rep.again {c:Cx} {st:St} {a:Act} (h:Rep base G0 own0 sz fr c st a) {τ:Tm} {x:τ.D} {m:Mt} (hx:τ.ext st.flat st.heap=some (x,m)) (hl:τ.slots.length=(a.tmps.toList++fr.flatten).length) :
  ∃ c',c'.w=c.w∧Rep base G0 own0 sz fr c' (g4W (sz::fr.map List.length) τ x) a:=by
 rw [← h.heap] at hx
 obtain ⟨c',hw,hH,hM,hargs⟩:=g1C h.mem hx
 obtain ⟨us',e1,e2,h3⟩:=hargs _ h.flat
 rw [List.drop_of_length_le (by omega),List.append_nil] at e1
 subst e1
 have hcut:=e8N (a.tmps.toList::fr) (a1W τ.slots x.1) (by simpa using h3)
 have hst:g4W (sz::fr.map List.length) τ x=⟨(a1W τ.slots x.1).take sz,d4Y (fr.map List.length) ((a1W τ.slots x.1).drop sz),a3K τ.heap x.2⟩:=rfl
 have hsz:a.tmps.toList.length=sz:=by rw [Array.length_toList]; exact h.size
 simp only [List.map_cons,d4Y,hsz] at hcut
 refine ⟨c',hw,?_⟩
 rw [hst]
 exact ⟨hM,hH,hcut.1,hcut.2,h.size,h.defers⟩
end
end Sym

/- What a call answers. -/
namespace Sym
open Go
section
variable {base:World} {G0 own0:Nat→Prop} {sz:Nat} {fr:List (List Value)} {P:Program}
theorem b9B {f : FuncId} {fn : Func} {b : Code} {args : Array Value} {w : World} (hf : P.funcs[f]? = some fn) (hb : fn.body = some b) (hn : (fn.name == "runtime.NumGoroutine") = false) : (callFunc f args).run P w = .ok (.enter f args) w := by
 unfold callFunc
 rw [Sem.run_bind]
 have:(program:Sem Program).run P w=.ok P w:=rfl
 rw [this,Result.andThen_ok]
 simp only [hf,hn,hb,Option.isNone_some]
 rfl
theorem g0L {c:Cx} (hM:Mem base G0 own0 c) {id:TypeId} {t s:Ty} (ht:TOk P t id) {b:Nat} {p:List Step} {v u:PV} {x:Value} (hx:VOk c (.ptr b p) x)
  (hb:a0L c.H b=.box s v) (hti:e3Z s p t=true) (hg:b1J v p=some u):∃ ad v',x=.pointer (some ad)∧(loadVar id ad).run P c.w=.ok v' c.w∧fits u t=true∧∃ cs,a1J c u cs∧v'=mkV (a4R u) cs:=by
 have hp:=d8I hx
 have hB:=hM.blk b
 unfold PtrOk at hp
 unfold BlkOk at hB
 simp only [hb] at hp hB
 obtain ⟨r,off,u',hρ,hoff,hv⟩:=hp
 obtain ⟨r',cs,e,hρ',hh,hc,hfs⟩:=hB
 rw [hρ'] at hρ
 simp only [Value.pointer.injEq,Option.some.injEq,Addr.mk.injEq] at hρ
 obtain ⟨rfl,_,_⟩:=hρ
 have:=c0T hti hoff
 subst this
 obtain ⟨hf,hcu⟩:=c0W v s cs p off u' u hc hfs hoff hg
 have hl:=a6I _ _ _ hcu hf
 exact ⟨_,_,hv,c1M ht c.w r' off _ hl (d2S hh),hf,_,hcu,by rw [c8I hf]⟩
theorem d5H {c:Cx} {pv:PV} {v:Value} (h:VOk c pv v) (hp:c4Y pv=true):∃ cs,a1J c pv cs∧v=mkV (a4R pv) cs:=by
 cases pv with
 | tup a=>cases hp
 | undef=>cases hp
 | _=>exact h
def e5K (tmps:Array Value):ResultVar→Sem Value
 | .tmp t=>pure (tmps.getD t undef)
 | .cell a t=>do loadVar t (← asAddr (tmps.getD a undef))
theorem e2E {E:Env} (hE:EnvOk E) {c:Cx} {st:St} {a:Act} (hr:Rep base G0 own0 sz fr c st a):∀ (l:List ResultVar) (rs:List PV),e6Y E st l=some rs →
  ∃ vs:List Value,(l.mapM (e5K a.tmps)).run E.P c.w=.ok vs c.w∧All2 (fun pv v=>∃ cs,a1J c pv cs∧v=mkV (a4R pv) cs) rs vs:=by
 intro l
 induction l with
 | nil =>
  intro rs h
  simp only [e6Y,Option.some.injEq] at h
  subst h
  exact ⟨[],by simp,trivial⟩
 | cons x l ih =>
  intro rs h
  cases x with
  | tmp t =>
   simp only [e6Y] at h
   split at h
   ·
    rename_i hp
    split at h
    ·
     rename_i r hl
     simp only [Option.some.injEq] at h
     subst h
     obtain ⟨vs,h1,h2⟩:=ih r hl
     refine ⟨a.tmps.getD t undef::vs,?_,d5H (by rw [getD_toList]; exact c4S t hr.slots) hp,h2⟩
     simp only [List.mapM_cons,e5K,Sem.run_bind,Sem.run_pure,Result.andThen_ok,h1]
    ·
     cases h
   ·
    cases h
  | cell d t =>
   simp only [e6Y] at h
   split at h
   ·
    rename_i u b p ht hd
    split at h
    ·
     rename_i s v hb
     split at h
     ·
      rename_i v' hti hg
      split at h
      ·
       rename_i r hl
       simp only [Option.some.injEq] at h
       subst h
       obtain ⟨vs,h1,h2⟩:=ih r hl
       have hx:=c4S d hr.slots
       rw [hd,← getD_toList] at hx
       obtain ⟨ad,w',e1,e2,_,hcs⟩:=g0L hr.mem (hE.ty _ _ ht).ok hx (by rw [hr.heap]; exact hb) hti hg
       refine ⟨w'::vs,?_,hcs,h2⟩
       simp only [List.mapM_cons,e5K,e1,asAddr,Sem.run_bind,Sem.run_pure,Result.andThen_ok,e2,h1]
      ·
       cases h
     ·
      cases h
    ·
     cases h
   ·
    cases h
theorem f0O {c:Cx}:∀ (rs:List PV) (vs:List Value),All2 (fun pv v=>∃ cs,a1J c pv cs∧v=mkV (a4R pv) cs) rs vs→d8H c (rs.foldr .pair (.val .nil ())) vs
 | [],[],_=>rfl
 | p::rs,v::vs,h=>by
  obtain ⟨⟨cs,h1,e⟩,h2⟩:=h
  exact ⟨cs,vs,by rw [e],h1,f0O rs vs h2⟩
 | [],_::_,h=>h.elim
 | _::_,[],h=>h.elim
theorem e7A {c:Cx} {pv:PV} {v:Value} (h:∃ cs,a1J c pv cs∧v=mkV (a4R pv) cs):VOk c pv v:=by
 cases pv with
 | tup a=>obtain ⟨cs,h1,_⟩:=h; exact h1.elim
 | undef=>trivial
 | _=>exact h
def d3G (vs:List Value):Value:=if h:vs.toArray.size=1 then vs.toArray[0] else .tuple vs.toArray
theorem d5S {c:Cx} {rs:List PV} {vs:List Value} (h2:All2 (fun pv v=>∃ cs,a1J c pv cs∧v=mkV (a4R pv) cs) rs vs):VOk c (tuple rs) (d3G vs):=by
 match rs,vs,h2 with
 | [],[],_=>exact ⟨[],rfl,rfl⟩
 | [p],[v],h2=>exact e7A h2.1
 | p::q::rs,v::u::vs,h2 =>
  show VOk c (.tup _) _
  refine ⟨v::u::vs,by simp [d3G],f0O (p::q::rs) _ h2⟩
theorem d0B {fn:Func} {tmps:Array Value} {w:World} {vs:List Value} (h1:(fn.results.toList.mapM (e5K tmps)).run P w=.ok vs w):(results fn tmps).run P w=.ok (d3G vs) w:=by
 have:results fn tmps=(do let vs ← fn.results.mapM (e5K tmps); pure (if h:vs.size=1 then vs[0] else .tuple vs)):=by
  unfold results
  congr 1
 rw [this,Array.mapM_eq_mapM_toList]
 simp only [Sem.run_bind,map_eq_pure_bind,Sem.run_pure,h1,Result.andThen_ok]
 rfl
theorem g4H {E:Env} (hE:EnvOk E) {c:Cx} {st:St} {a:Act} (hr:Rep base G0 own0 sz fr c st a) {fn:Func} {rs:List PV} (h:f3R E fn st=some rs) :
  ∃ v,(results fn a.tmps).run E.P c.w=.ok v c.w∧VOk c (tuple rs) v:=by
 obtain ⟨vs,h1,h2⟩:=e2E hE hr _ _ h
 exact ⟨_,d0B h1,d5S h2⟩
theorem d6V:∀ (l:List Sh) (x:ShD l),l.all (fun s=>!s.isDead)=true→∀ v∈a1W l x,c4Y v=true:=by
 intro l
 induction l with
 | nil=>intro x _ v hv; simp [a1W] at hv
 | cons s l ih =>
  intro x h v hv
  simp only [List.all_cons,Bool.and_eq_true,Bool.not_eq_true'] at h
  cases s with
  | dead=>cases h.1
  | pl t=>simp only [a1W,List.mem_cons] at hv; rcases hv with rfl | hv; rfl; exact ih _ h.2 v hv
  | bp t=>simp only [a1W,List.mem_cons] at hv; rcases hv with rfl | hv; rfl; exact ih _ h.2 v hv
  | pair p q=>simp only [a1W,List.mem_cons] at hv; rcases hv with rfl | hv; rfl; exact ih _ h.2 v hv
  | iface p q=>simp only [a1W,List.mem_cons] at hv; rcases hv with rfl | hv; rfl; exact ih _ h.2 v hv
  | clo p q=>simp only [a1W,List.mem_cons] at hv; rcases hv with rfl | hv; rfl; exact ih _ h.2 v hv
  | _=>simp only [a1W,List.mem_cons] at hv; rcases hv with rfl | hv; rfl; exact ih _ h.2 v hv
theorem d2I {c:Cx}:∀ (rs:List PV) (vs:List Value),(∀ v∈rs,c4Y v=true)→All2 (VOk c) rs vs→All2 (fun pv v=>∃ cs,a1J c pv cs∧v=mkV (a4R pv) cs) rs vs
 | [],[],_,_=>trivial
 | p::rs,v::vs,h,hh=>⟨d5H hh.1 (h p (by simp)),d2I rs vs (fun q hq=>h q (by simp [hq])) hh.2⟩
 | [],_::_,_,h=>h.elim
 | _::_,[],_,h=>h.elim
end
end Sym

/- The evaluator of code tells what the machine does: the theorem. -/
namespace Sym
open Go
def f4T (P : Program) : Prop := ∀ (f : FuncId) (fn : Func), P.funcs[f]? = some fn → (fn.name == "runtime.NumGoroutine") = false
theorem f8Q {X:Type}:∀ (n:Nat) (x:X),b9Q n x=List.replicate n x
 | 0,_=>rfl
 | n+1,x=>by simp [b9Q,List.replicate_succ,f8Q n x]
theorem d4M {c:Cx} {fn:Func} {vs:List PV} {us:List Value} (h:All2 (VOk c) vs us):All2 (VOk c) (frame fn vs) (us.toArray++Array.replicate (fn.ntmps-us.toArray.size) undef).toList:=by
 have hl:=All2.len h
 unfold frame
 simp only [Array.toList_append,Array.toList_replicate,List.size_toArray]
 refine d4B h ?_
 rw [hl,f8Q]
 generalize fn.ntmps-us.length=n
 induction n with
 | zero=>trivial
 | succ n ih=>exact ⟨e3C,ih⟩
section
variable {base:World} {G0 own0:Nat→Prop}
theorem e4P {n:Nat} {ms:List Nat} {m:Nat} (h:e6F n ms=some m):m+1=n∧∀ j,j<m→(ms.getD m 0).testBit j=true:=by
 cases n with
 | zero=>cases h
 | succ k =>
  simp only [e6F] at h
  split at h
  ·
   rename_i hb
   cases h
   refine ⟨rfl,fun j hj=>?_⟩
   rw [Nat.eq_of_beq_eq_true hb,Nat.testBit_two_pow_sub_one]
   exact decide_eq_true hj
  ·
   cases h
theorem g9S {E:Env} (hE:EnvOk E) (hodd:f4T E.P) (A:g4T) (k:Nat):∀ (n:Nat) (R:Type) (T:R→Prop) (fail:R) (path:List Nat) (cur:Nat) (code:Code) (K:Kt R) (st:St) (c:Cx) (a:Act) (sz:Nat) (fr:List (List Value)) (Q:Exit→Act→World→Prop),
  ¬ T fail→T (ev E A k n R fail path cur code K st)→Rep base G0 own0 sz fr c st a→KOk base G0 own0 sz fr T K Q→code.wp E.P Q a c.w:=by
 intro n
 induction n with
 | zero=>intro R T fail path cur code K st c a sz fr Q hf h; exact absurd h hf
 | succ n ih =>
  intro R T fail path cur code K st c a sz fr Q hf h hr hK
  have hno:∀ {x:Prop},T fail→x:=fun h=>absurd h hf
  cases code with
  | skip=>exact wp_skip (hK.norm st c a h hr)
  | seq x y =>
   simp only [ev] at h
   split at h
   ·
    rename_i τ _
    split at h
    ·
     rename_i hl
     have hlens:=hr.lens
     have hlen:∀ (c':Cx) (st':St) (a':Act),Rep base G0 own0 sz fr c' st' a'→τ.slots.length=(a'.tmps.toList++fr.flatten).length:=by
      intro c' st' a' hr'
      have h1:=Nat.eq_of_beq_eq_true hl
      have h2:=All2.len hr.flat
      have h3:=hr.size
      have h4:=hr'.size
      rw [h1,h2]
      simp only [List.length_append,Array.length_toList]
      omega
     rw [hlens] at h
     unfold jn at h
     refine wp_seq (ih R T fail path cur x _ st c a sz fr _ hf h hr ⟨fun st c a h hr=>?_,fun i st c a h hr=>hK.exit i st c a h hr,fun st c a h hr=>hK.ret st c a h hr⟩)
     simp only at h
     split at h
     ·
      rename_i z mt hz
      obtain ⟨c',hw,hr'⟩:=hr.again hz (hlen c st a hr)
      have:=ih R T fail path cur y K _ c' a sz fr Q hf h hr' hK
      rw [hw] at this
      exact this
     ·
      exact hno h
    ·
     exact hno h
   ·
    refine wp_seq (ih R T fail path cur x _ st c a sz fr _ hf h hr ⟨fun st c a h hr=>?_,fun i st c a h hr=>hK.exit i st c a h hr,fun st c a h hr=>hK.ret st c a h hr⟩)
    exact ih R T fail path cur y K st c a sz fr Q hf h hr hK
  | cond o x y =>
   simp only [ev] at h
   split at h
   ·
    rename_i b hb
    have ho:=g4P hr.slots o
    rw [hb] at ho
    have ho:=d6G ho
    cases hb':(show Bool from b) with
    | true =>
     simp only [hb',brn,cond_true] at h
     exact wp_cond_true (ho.trans (by rw [hb'])) (ih R T fail path cur x K st c a sz fr Q hf h hr hK)
    | false =>
     simp only [hb',brn,cond_false] at h
     exact wp_cond_false (ho.trans (by rw [hb'])) (ih R T fail path cur y K st c a sz fr Q hf h hr hK)
   ·
    exact hno h
  | block id b =>
   simp only [ev] at h
   refine wp_block (ih R T fail path id b _ st c a sz fr _ hf h hr ⟨fun st c a h hr=>hK.norm st c a h hr,fun i st c a h hr=>?_,fun st c a h hr=>hK.ret st c a h hr⟩)
   simp only [Exit.inBlock]
   simp only at h
   split at h
   ·
    rename_i hid
    rw [if_pos (Nat.eq_of_beq_eq_true hid)]
    exact hK.norm st c a h hr
   ·
    rename_i hid
    rw [if_neg (fun e=>by rw [e,Nat.beq_refl] at hid; cases hid)]
    exact hK.exit i st c a h hr
  | exit id=>exact wp_exit (hK.exit id st c a h hr)
  | ret=>exact wp_ret (hK.ret st c a h hr)
  | region id ops draw =>
   simp only [ev] at h
   cases draw with
   | true =>
    simp only at h
    split at h
    ·
     rename_i hA
     split at h
     ·
      rename_i m hm
      obtain ⟨hm1,hm2⟩:=e4P hm
      refine e3R hE hf hA (ini:=ops.toList.take m) (suf:=ops.toList.drop m) (by simp) (fun _=>?_) (fun st c a h hr=>?_) h hr
      ·
       simp only [List.length_take,Array.length_toList]
       rw [Nat.min_eq_left (by omega)]
       exact ⟨hm1,hm2⟩
      ·
       have hlen:(ops.toList.take m).length=m:=by simp only [List.length_take,Array.length_toList]; omega
       have hlen2:(ops.toList.drop m).length=1:=by simp only [List.length_drop,Array.length_toList]; omega
       rw [if_pos (by rw [hlen]; omega)]
       have:=f0B (Q:=Q) hE hf (inl:=_) (@?hinl) ops (fun st c a h hr=>hK.norm st c a h hr) (ops.toList.drop m) (ops.toList.take m) st c a (by simp) (by rw [hlen]; exact h) hr
       ·
        rw [hlen2] at this
        exact this
       case hinl =>
        intro i f vs st next c a us Kw h hhow hr hargs hKw
        simp only at h
        split at h
        ·
         rename_i fn hfn
         split at h
         ·
          rename_i body hb
          refine ⟨b9B hfn hb (hodd f fn hfn),calls_of_wp hfn hb ?_⟩
          refine ih R T fail _ 0 body _ ⟨frame fn vs,st.slots::st.stk,st.heap⟩ c _ _ (a.tmps.toList::fr) _ hf h ⟨hr.mem,hr.heap,d4M hargs,⟨hr.slots,hr.stk⟩,rfl,rfl⟩ ?_
          have fin:∀ s c' a',T (match f3R E fn s,s.stk with | some rs,s0::r=>next (tuple rs) ⟨s0,r,s.heap⟩ | _,_=>fail)→Rep base G0 own0 (us.toArray++Array.replicate (fn.ntmps-us.toArray.size) undef).size (a.tmps.toList::fr) c' s a' →
            a'.defers=[]∧∃ v,(results fn a'.tmps).run E.P c'.w=.ok v c'.w∧∃ v',Ending.returned v=.returned v'∧Kw v' c'.w:=by
           intro s c' a' h hr'
           split at h
           ·
            rename_i rs s0 r hrs hstk
            obtain ⟨v,h1,h2⟩:=g4H hE hr' hrs
            refine ⟨hr'.defers,v,h1,v,rfl,hKw _ _ c' v h ⟨hr'.mem,hr'.heap,?_,?_,hr.size,hr.defers⟩ h2⟩
            ·
             have:=hr'.stk; rw [hstk] at this; exact this.1
            ·
             have:=hr'.stk; rw [hstk] at this; exact this.2
           ·
            exact hno h
          exact ⟨fun s c' a' h hr'=>fin s c' a' h hr',fun i s c' a' h _=>hno h,fun s c' a' h hr'=>fin s c' a' h hr'⟩
         ·
          exact hno h
        ·
         exact hno h
     ·
      exact e3R hE hf hA (ini:=ops.toList) (suf:=[]) (by simp) (fun h=>absurd h (by simp)) (fun st c a h hr=>by rw [if_neg (by simp)]; exact hK.norm st c a h hr) h hr
    ·
     exact hno h
   | false =>
    simp only at h
    refine wp_region ?_
    have:=f0B (Q:=Q) hE hf (inl:=_) ?_ ops (fun st c a h hr=>hK.norm st c a h hr) ops.toList [] st c a (by simp) h hr
    ·
     simpa [List.range_eq_range'] using this
    ·
     intro i f vs st next c a us Kw h hhow hr hargs hKw
     simp only at h
     split at h
     ·
      rename_i fn hfn
      split at h
      ·
       rename_i body hb
       refine ⟨b9B hfn hb (hodd f fn hfn),calls_of_wp hfn hb ?_⟩
       refine ih R T fail _ 0 body _ ⟨frame fn vs,st.slots::st.stk,st.heap⟩ c _ _ (a.tmps.toList::fr) _ hf h ⟨hr.mem,hr.heap,d4M hargs,⟨hr.slots,hr.stk⟩,rfl,rfl⟩ ?_
       have fin:∀ s c' a',T (match f3R E fn s,s.stk with | some rs,s0::r=>next (tuple rs) ⟨s0,r,s.heap⟩ | _,_=>fail)→Rep base G0 own0 (us.toArray++Array.replicate (fn.ntmps-us.toArray.size) undef).size (a.tmps.toList::fr) c' s a' →
         a'.defers=[]∧∃ v,(results fn a'.tmps).run E.P c'.w=.ok v c'.w∧∃ v',Ending.returned v=.returned v'∧Kw v' c'.w:=by
        intro s c' a' h hr'
        split at h
        ·
         rename_i rs s0 r hrs hstk
         obtain ⟨v,h1,h2⟩:=g4H hE hr' hrs
         refine ⟨hr'.defers,v,h1,v,rfl,hKw _ _ c' v h ⟨hr'.mem,hr'.heap,?_,?_,hr.size,hr.defers⟩ h2⟩
         ·
          have:=hr'.stk; rw [hstk] at this; exact this.1
         ·
          have:=hr'.stk; rw [hstk] at this; exact this.2
        ·
         exact hno h
       exact ⟨fun s c' a' h hr'=>fin s c' a' h hr',fun i s c' a' h _=>hno h,fun s c' a' h hr'=>fin s c' a' h hr'⟩
      ·
       exact hno h
     ·
      exact hno h
  | loop b =>
   simp only [ev] at h
   split at h
   ·
    rename_i m _
    have key:∀ (m:Nat) (st:St) (c:Cx) (a:Act),T (unroll fail (fun again st=>ev E A k n R fail path cur b ⟨again,K.exit,K.ret⟩ st) m st)→Rep base G0 own0 sz fr c st a→b.wp E.P (Exit.then (e0J E.P b Q) Q) a c.w:=by
     intro m
     induction m with
     | zero=>intro st c a h; exact hno h
     | succ m ihm =>
      intro st c a h hr
      exact ih R T fail path cur b _ st c a sz fr _ hf h hr ⟨fun st c a h hr=>e5S (ihm st c a h hr),fun i st c a h hr=>hK.exit i st c a h hr,fun st c a h hr=>hK.ret st c a h hr⟩
    exact f4O (key m st c a h hr)
   ·
    rename_i τ _
    split at h
    ·
     rename_i x mt hx hl
     have hlens:=hr.lens
     have hlen:∀ (c':Cx) (st':St) (a':Act),Rep base G0 own0 sz fr c' st' a'→τ.slots.length=(a'.tmps.toList++fr.flatten).length:=by
      intro c' st' a' hr'
      have h1:=Nat.eq_of_beq_eq_true hl
      have h2:=All2.len hr.flat
      have h3:=hr.size
      have h4:=hr'.size
      rw [h1,h2]
      simp only [List.length_append,Array.length_toList]
      omega
     rw [hlens] at h
     have key:∀ (j:Nat) (x:τ.D) (c:Cx) (a:Act),T (iter fail (fun x=>ev E A k n (Stp τ.D R) (.done fail) path cur b
       ⟨fun st=>match τ.ext st.flat st.heap with | some (y,_)=>.again y | none=>.done fail,fun i st=>.done (K.exit i st),fun st=>.done (K.ret st)⟩ (g4W (sz::fr.map List.length) τ x)) j x) →
       Rep base G0 own0 sz fr c (g4W (sz::fr.map List.length) τ x) a→b.wp E.P (Exit.then (e0J E.P b Q) Q) a c.w:=by
      intro j
      induction j with
      | zero=>intro x c a h; exact hno h
      | succ j ihj =>
       intro x c a h hr
       let T':Stp τ.D R→Prop:=fun s=>match s with
        | .again y=>T (iter fail (fun x=>ev E A k n (Stp τ.D R) (.done fail) path cur b
          ⟨fun st=>match τ.ext st.flat st.heap with | some (y,_)=>.again y | none=>.done fail,fun i st=>.done (K.exit i st),fun st=>.done (K.ret st)⟩ (g4W (sz::fr.map List.length) τ x)) j y)
        | .done r=>T r
       refine ih (Stp τ.D R) T' (.done fail) path cur b
        ⟨fun st=>match τ.ext st.flat st.heap with | some (y,_)=>.again y | none=>.done fail,fun i st=>.done (K.exit i st),fun st=>.done (K.ret st)⟩ (g4W (sz::fr.map List.length) τ x) c a sz fr _ hf ?_ hr ⟨fun st c a h hr=>?_,fun i st c a h hr=>hK.exit i st c a h hr,fun st c a h hr=>hK.ret st c a h hr⟩
       ·
        simp only [iter] at h
        simp only [T']
        split at h
        ·
         rename_i y hy; simp only [hy]; exact h
        ·
         rename_i r hy; simp only [hy]; exact h
       ·
        simp only at h
        split at h
        ·
         rename_i y mt hy
         obtain ⟨c',hw,hr'⟩:=hr.again hy (hlen c st a hr)
         have:=e5S (ihj y c' a h hr')
         rw [hw] at this
         exact this
        ·
         exact hno h
     obtain ⟨c',hw,hr'⟩:=hr.again hx (hlen c st a hr)
     have:=f4O (key k x c' a h hr')
     rw [hw] at this
     exact this
    ·
     exact hno h
   ·
    exact hno h
  | _=>simp only [ev] at h; exact hno h
end
theorem e3L:∀ (l:List BSh) (x:f0T l) (i:Nat),i<b0T l→∃ t v,a0L (a3K l x) i=.box t v
 | .box t s::l,x,0,_=>⟨t,_,rfl⟩
 | .box t s::l,x,i+1,h=>e3L l x.2 i (by simpa [b0T] using h)
 | [],_,_,h=>by simp [b0T] at h
 | .row _::_,_,_,h=>by simp [b0T] at h
theorem h2C {c:Cx} {i:Nat} {t:Ty} {v:PV} (hB:BlkOk c i) (hb:a0L c.H i=.box t v):VOk c (.ptr i []) (c.ρ i):=by
 unfold BlkOk at hB
 rw [hb] at hB
 obtain ⟨r,cs,ty,h1,_⟩:=hB
 refine ⟨[c.ρ i],⟨c.ρ i,rfl,by rw [h1]; rfl,?_⟩,rfl⟩
 unfold PtrOk
 rw [hb]
 exact ⟨r,0,t,h1,by cases t<;>rfl,h1⟩
theorem g8U {c:Cx} {i:Nat} {t:Ty} {v:PV} {u:Value} (hb:a0L c.H i=.box t v) (h:VOk c (.ptr i []) u):u=c.ρ i:=by
 obtain ⟨cs,⟨w,e,_,h1⟩,h2⟩:=h
 subst e
 have h2:u=w:=h2
 subst h2
 unfold PtrOk at h1
 rw [hb] at h1
 obtain ⟨r,o,u',h3,h4,h5⟩:=h1
 have:o=0:=by
  have e:a2J t []=some (0,t):=by cases t<;>rfl
  rw [e] at h4
  exact ((Prod.mk.inj (Option.some.inj h4)).1).symm
 rw [h5,h3,this]
def d9F (ρ:Nat→Value):Nat→Nat→List Value
 | _,0=>[]
 | i,n+1=>ρ i::d9F ρ (i+1) n
theorem e4A (ρ:Nat→Value):∀ (n i j:Nat),j<n→(d9F ρ i n)[j]?=some (ρ (i+j))
 | 0,_,_,h=>by omega
 | n+1,i,0,_=>rfl
 | n+1,i,j+1,h=>by
  simp only [d9F,List.getElem?_cons_succ]
  rw [e4A ρ n (i+1) j (by omega),show i+1+j=i+(j+1) by omega]
theorem e5A {c:Cx} {l:List BSh} {x:f0T l} (hB:∀ i,BlkOk c i) (hH:c.H=a3K l x):∀ (n i:Nat),i+n≤b0T l→All2 (VOk c) (f5Z i n) (d9F c.ρ i n)
 | 0,_,_=>trivial
 | n+1,i,h=>by
  obtain ⟨t,v,hb⟩:=e3L l x i (by omega)
  exact ⟨h2C (hB i) (by rw [hH]; exact hb),e5A hB hH n (i+1) (by omega)⟩
def d8P (ρ:Nat→Value) (l:List BSh):List (List Value) :=
 match b0T l with
 | 0=>[]
 | n+1=>[d9F ρ 0 (n+1)]
theorem f3T {c:Cx} {l:List BSh} {x:f0T l} (hB:∀ i,BlkOk c i) (hH:c.H=a3K l x):All2 (All2 (VOk c)) (e2H l) (d8P c.ρ l):=by
 unfold e2H d8P
 cases h:b0T l with
 | zero=>trivial
 | succ n=>exact ⟨e5A hB hH (n+1) 0 (by omega),trivial⟩
theorem e6O (ρ:Nat→Value) (l:List BSh) {st:List (List PV)} {c:Cx} (h:All2 (All2 (VOk c)) st (d8P ρ l)):All2 (VOk c) (g7X st) (d9F ρ 0 (b0T l)):=by
 unfold d8P at h
 cases hk:b0T l with
 | zero =>
  rw [hk] at h
  cases st with
  | nil=>exact trivial
  | cons _ _=>exact h.elim
 | succ n =>
  rw [hk] at h
  cases st with
  | nil=>exact h.elim
  | cons s r=>exact h.1
theorem e8Y {X Y:Type} {R:X→Y→Prop}:∀ {l:List X} {r:List Y} (i:Nat) {y:Y},All2 R l r→r[i]?=some y→∃ x,l[i]?=some x∧R x y
 | [],[],_,_,_,h=>by simp at h
 | x::l,y::r,0,z,h,hi=>by
  simp only [List.getElem?_cons_zero,Option.some.injEq] at hi
  subst hi
  exact ⟨x,rfl,h.1⟩
 | x::l,y::r,i+1,z,h,hi=>by
  obtain ⟨w,h1,h2⟩:=e8Y i h.2 (by simpa using hi)
  exact ⟨w,by simpa using h1,h2⟩
 | [],_::_,_,_,h,_=>h.elim
 | _::_,[],_,_,h,_=>h.elim
theorem e3P {E:Env} (hE:EnvOk E) (hodd:f4T E.P) {f:FuncId} {C:Con} (h:∀ x y,C.F x=some y→∃ A n k,f0Z E A f C.In C.Out n k x=some y) (hko:c6Z C.In.heap C.Out.heap=true:=by rfl):a0Z E.P f C:=by
 intro x y hxy c vals hS hH hargs
 obtain ⟨A,n,k,h⟩:=h x y hxy
 unfold f0Z at h
 split at h
 ·
  rename_i fn hfn
  split at h
  ·
   rename_i body hb
   right
   refine ⟨b9B hfn hb (hodd f fn hfn),calls_of_wp hfn hb ?_⟩
   have hM:=hS.mem
   refine g9S hE hodd A k n (Option C.Out.D) (fun r=>r=some y) none [f] 0 body _ ⟨frame fn (a1W C.In.slots x.1),e2H C.In.heap,a3K C.In.heap x.2⟩ c _ _ (d8P c.ρ C.In.heap) _ (by simp) h ⟨hM,hH,d4M hargs,f3T hS.blk hH,rfl,rfl⟩ ?_
   have fin:∀ (s:St) (c':Cx) (a':Act),d8U E fn C.Out s=some y →
     Rep c.w (f9C c) (d0H c) (vals.toArray++Array.replicate (fn.ntmps-vals.toArray.size) undef).size (d8P c.ρ C.In.heap) c' s a' →
     a'.defers=[]∧∃ v,(results fn a'.tmps).run E.P c'.w=.ok v c'.w∧∃ v',Ending.returned v=.returned v'∧∃ c2:Cx,c2.w=c'.w∧c2.H=a3K C.Out.heap y.2∧VOk c2 (tuple (a1W C.Out.slots y.1)) v'∧Mem c.w (f9C c) (d0H c) c2∧∀ i,i<b0T C.In.heap→c2.ρ i=c.ρ i:=by
    intro s c' a' h hr
    unfold d8U at h
    split at h
    ·
     rename_i rs σ hrs hσ
     split at h
     ·
      rename_i z m hz hlen
      have h:=Option.some.inj h
      subst h
      simp only [Bool.and_eq_true] at hlen
      obtain ⟨vs,h1,h2⟩:=e2E hE hr _ _ hrs
      rw [← hr.heap] at hz
      obtain ⟨hle,c2,hρ2,hsim,hw,hH2,hM2,hargs2⟩:=d5C hr.mem hz
      obtain ⟨us',e1,e2,h3⟩:=hargs2 vs (All2.mono (fun _ _ h=>e7A h) _ _ h2)
      have hl:=Nat.eq_of_beq_eq_true hlen.1
      rw [List.drop_of_length_le (by have:=All2.len h2; omega),List.append_nil] at e1
      subst e1
      refine ⟨hr.defers,_,d0B h1,_,rfl,c2,hw,hH2,d5S (d2I _ _ (d6V _ _ hlen.2) h3),hM2,fun i hi=>?_⟩
      have hhd:=e6O c.ρ C.In.heap hr.stk
      obtain ⟨pv,q1,q2⟩:=e8Y i hhd (e4A c.ρ (b0T C.In.heap) 0 i hi)
      rw [Nat.zero_add] at q2
      obtain ⟨_,q3⟩:=f0S _ _ _ _ hσ
      obtain ⟨b,q4,q5⟩:=q3 i (by
       rcases Nat.lt_or_ge i (g7X s.stk).length with h | h
       ·
        exact h
       ·
        rw [List.getElem?_eq_none h] at q1; cases q1)
      rw [q1] at q4
      have q4:=Option.some.inj q4
      subst q4
      rw [Nat.zero_add] at q5
      have q6:=hle.1 i b q5
      obtain ⟨t,w,w',g1,g2⟩:=(d4I _ _ x.2 z.2 hko i hi).2
      have hs:=hsim i b q6
      rw [g2] at hs
      rw [hρ2 i b q6]
      cases hcb:a0L c'.H b with
      | box t' v'=>exact (g8U hcb q2).symm
      | _=>rw [hcb] at hs; simp [c0A] at hs
     ·
      cases h
    ·
     cases h
   exact ⟨fun s c' a' h hr=>fin s c' a' h hr,fun i s c' a' h _=>(by cases h),fun s c' a' h hr=>fin s c' a' h hr⟩
  ·
   cases h
 ·
  cases h
section
variable {base:World} {G0 own0:Nat→Prop}
theorem c5I {v:Value} (h:v.oneCell'=true):∀ vs,v≠.tuple vs:=by
 intro vs e
 subst e
 cases h
theorem f7H {c:Cx} (hM:Mem base G0 own0 c) {n:Nat} (hown:∀ b r,live (a0L c.H b)=true→a6C (c.ρ b)=some r→n≤r) {s:Sh} {pv:PV} (hf:e2A c.H s pv=true) {v:Value} (hv:VOk c pv v):c9K n v∧∀ vs,v≠.tuple vs:=by
 cases s with
 | pl t =>
  simp only [e2A] at hf
  split at hf
  ·
   rename_i x hx
   obtain ⟨us,hc,e,hE⟩:=c7I hM hv hx
   simp only [Bool.or_eq_true,Bool.not_eq_true'] at hf
   rcases hf with hf | hf
   ·
    have h1:=a8W (n:=n) t hf hE
    cases t with
    | int k=>simp only [Enc] at hE; subst hE; exact ⟨by rw [e]; exact h1 _ (List.mem_singleton_self _),by intro vs h; rw [e] at h; cases h⟩
    | bool=>simp only [Enc] at hE; subst hE; exact ⟨by rw [e]; exact h1 _ (List.mem_singleton_self _),by intro vs h; rw [e] at h; cases h⟩
    | str=>obtain ⟨hE,_⟩:=hE; subst hE; exact ⟨by rw [e]; exact h1 _ (List.mem_singleton_self _),by intro vs h; rw [e] at h; cases h⟩
    | opq=>exact hE.elim
    | fnc=>simp only [Enc] at hE; subst hE; exact ⟨by rw [e]; exact h1 _ (List.mem_singleton_self _),by intro vs h; rw [e] at h; rcases g4C _ h with h | ⟨f,h⟩<;>cases h⟩
    | sl t=>cases hf
    | nil=>rw [e]; exact ⟨fun ad l cap h=>(by cases h),fun vs h=>(by cases h)⟩
    | cons a b=>rw [e]; exact ⟨fun ad l cap h=>(by cases h),fun vs h=>(by cases h)⟩
    | arr k t=>rw [e]; exact ⟨fun ad l cap h=>(by cases h),fun vs h=>(by cases h)⟩
   ·
    cases pv with
    | nils =>
     obtain ⟨cs,h1,h2⟩:=hv
     have:cs=[.slice none 0 0]:=h1
     subst this
     rw [h2]
     exact ⟨fun ad l cap h=>(by cases h),fun vs h=>(by cases h)⟩
    | whole b =>
     obtain ⟨cs,⟨u,e1,h1,hw⟩,h2⟩:=hv
     subst e1
     have h2:v=u:=h2
     subst h2
     unfold b2E at hw
     have hl:live (a0L c.H b)=true:=hf
     cases hb:a0L c.H b with
     | row t l =>
      simp only [hb] at hw
      refine ⟨fun ad l cap h=>.inr ?_,c5I h1⟩
      refine hown b ad.block hl ?_
      rw [← hw,h]; rfl
     | dead=>simp [hb,live] at hl
     | unborn=>simp [hb,live] at hl
     | box t l=>simp [hb] at hw
    | row b lo k =>
     obtain ⟨cs,⟨u,e1,h1,hw⟩,h2⟩:=hv
     subst e1
     have h2:v=u:=h2
     subst h2
     unfold d0G at hw
     have hl:live (a0L c.H b)=true:=hf
     cases hb:a0L c.H b with
     | row t l =>
      simp only [hb] at hw
      obtain ⟨_,⟨h0,a,cap,h3⟩ | ⟨r,cap,cap',h3,h4,_⟩⟩:=hw
      ·
       refine ⟨fun ad l cap h=>.inl ?_,c5I h1⟩
       rw [h3] at h; cases h; rfl
      ·
       refine ⟨fun ad l cap h=>.inr ?_,c5I h1⟩
       rw [h4] at h
       cases h
       exact hown b r hl (by rw [h3]; rfl)
     | dead=>simp [hb,live] at hl
     | unborn=>simp [hb,live] at hl
     | box t l=>simp [hb] at hw
    | _=>simp at hf
  ·
   cases hf
 | _=>simp [e2A] at hf
theorem e4U {c:Cx} (hM:Mem base G0 own0 c) {n:Nat} (hown:∀ b r,live (a0L c.H b)=true→a6C (c.ρ b)=some r→n≤r):∀ (l:List Sh) (rs:List PV) (vs:List Value),c8F c.H l rs=true→All2 (VOk c) rs vs→∀ u∈vs,c9K n u∧∀ ws,u≠.tuple ws
 | [],[],[],_,_=>fun u hu=>by simp at hu
 | [],[],_::_,_,h=>h.elim
 | [],_::_,_,h,_=>by simp [c8F] at h
 | _::_,[],_,h,_=>by simp [c8F] at h
 | _::_,_::_,[],_,h=>h.elim
 | s::l,p::rs,v::vs,h,ha=>by
  simp only [c8F,Bool.and_eq_true] at h
  intro u hu
  simp only [List.mem_cons] at hu
  rcases hu with rfl | hu
  ·
   exact f7H hM hown h.1 ha.1
  ·
   exact e4U hM hown l rs vs h.2 ha.2 u hu
end
theorem e3M {n:Nat} {vs:List Value} (h:∀ u∈vs,c9K n u∧∀ ws,u≠.tuple ws):e4G n (d3G vs):=by
 match vs,h with
 | [],_=>exact ⟨fun ad l cap h=>(by simp [d3G] at h),fun ws h u hu=>by simp [d3G] at h; subst h; simp at hu⟩
 | [v],h=>exact ⟨(h v (by simp)).1,fun ws e=>absurd e ((h v (by simp)).2 ws)⟩
 | v::w::r,h=>exact ⟨fun ad l cap h=>(by simp [d3G] at h),fun ws e u hu=>by simp [d3G] at e; subst e; exact (h u (by simpa using hu)).1⟩
theorem e6S {E:Env} (hE:EnvOk E) (hodd:f4T E.P) {f:FuncId} {C:Con} (h:∀ x y,C.F x=some y→∃ A n k,d6Y E A f C.In C.Out n k x=some y):c2J E.P f C:=by
 intro x y hxy c vals hS hH hargs
 obtain ⟨A,n,k,h⟩:=h x y hxy
 unfold d6Y at h
 split at h
 ·
  rename_i fn hfn
  split at h
  ·
   rename_i body hb hin
   right
   refine ⟨b9B hfn hb (hodd f fn hfn),calls_of_wp hfn hb ?_⟩
   have hM:=hS.mem
   have hH0:c.H=[]:=by
    have h1:(a3K C.In.heap x.2).length=0:=(b0S C.In.heap x.2).trans (congrArg List.length hin)
    rw [hH]
    exact List.eq_nil_of_length_eq_zero h1
   refine g9S hE hodd A k n (Option C.Out.D) (fun r=>r=some y) none [f] 0 body _ ⟨frame fn (a1W C.In.slots x.1),[],[]⟩ c _ _ [] _ (by simp) h ⟨hM,hH0,d4M hargs,trivial,rfl,rfl⟩ ?_
   have hnoown:∀ r,¬ d0H c r:=by
    rintro r ⟨b,hb,_⟩
    simp [hH0,a0L,live] at hb
   have fin:∀ (s:St) (c':Cx) (a':Act),d4G E fn C.Out s=some y →
     Rep c.w (f9C c) (d0H c) (vals.toArray++Array.replicate (fn.ntmps-vals.toArray.size) undef).size [] c' s a' →
     a'.defers=[]∧∃ v,(results fn a'.tmps).run E.P c'.w=.ok v c'.w∧∃ v',Ending.returned v=.returned v'∧(∃ c2:Cx,c2.w=c'.w∧c2.H=a3K C.Out.heap y.2∧VOk c2 (tuple (a1W C.Out.slots y.1)) v'∧Mem c.w (f9C c) (d0H c) c2)∧e4G c.w.heap.size v':=by
    intro s c' a' h hr
    unfold d4G at h
    split at h
    ·
     rename_i rs hrs0
     split at h
     ·
      rename_i hfa
      unfold d8U at h
      split at h
      ·
       rename_i rs' σ hrs hσ
       rw [hrs0] at hrs
       have hrr:=Option.some.inj hrs
       subst hrr
       split at h
       ·
        rename_i z m hz hlen
        have h:=Option.some.inj h
        subst h
        simp only [Bool.and_eq_true] at hlen
        obtain ⟨vs,h1,h2⟩:=e2E hE hr _ _ hrs0
        rw [← hr.heap] at hz hfa
        obtain ⟨_,c2,_,_,hw,hH2,hM2,hargs2⟩:=d5C hr.mem hz
        have hvs:=All2.mono (fun _ _ h=>e7A h) _ _ h2
        obtain ⟨us',e1,e2,h3⟩:=hargs2 vs hvs
        have hl:=Nat.eq_of_beq_eq_true hlen.1
        rw [List.drop_of_length_le (by have:=All2.len h2; omega),List.append_nil] at e1
        subst e1
        refine ⟨hr.defers,_,d0B h1,_,rfl,⟨c2,hw,hH2,d5S (d2I _ _ (d6V _ _ hlen.2) h3),hM2⟩,e3M (e4U hr.mem (fun b r hl he=>?_) _ _ _ hfa hvs)⟩
        rcases hr.mem.own b r hl he with h | h
        ·
         exact absurd h (hnoown r)
        ·
         exact h
       ·
        cases h
      ·
       cases h
     ·
      cases h
    ·
     cases h
   exact ⟨fun s c' a' h hr=>fin s c' a' h hr,fun i s c' a' h _=>(by cases h),fun s c' a' h hr=>fin s c' a' h hr⟩
  ·
   cases h
 ·
  cases h
end Sym

/- Functions without a body: sums with a carry. -/
namespace Sym
open Go
abbrev u64:Ty:=.int .u64
def e9N (x:(⟨[.pl u64,.pl u64,.pl u64],[]⟩:Tm).D):Option (⟨[.pl u64,.pl u64],[]⟩:Tm).D :=
 match Nat.ble (I.nat (k:=.u64) x.1.2.2.1) 1 with
 | true=>some ((I.of .u64 (x.1.1.val+x.1.2.1.val+x.1.2.2.1.val),I.of .u64 ((x.1.1.val+x.1.2.1.val+x.1.2.2.1.val) / 18446744073709551616),()),())
 | false=>none
def f5G (x:(⟨[.pl u64,.pl u64,.pl u64],[]⟩:Tm).D):Option (⟨[.pl u64,.pl u64],[]⟩:Tm).D :=
 match Nat.ble (I.nat (k:=.u64) x.1.2.2.1) 1 with
 | true=>some ((I.of .u64 (x.1.1.val-x.1.2.1.val-x.1.2.2.1.val),I.of .u64 (bif decide (x.1.1.val<x.1.2.1.val+x.1.2.2.1.val) then 1 else 0),()),())
 | false=>none
def f6Q:Con:=⟨_,_,e9N⟩
def f8M:Con:=⟨_,_,f5G⟩
def g3N:Array Value→Sem Value:=fun args=>do
 let (x, y, c) ← Extern.MathBitsCarry.three "Add64" args
 pure (Extern.MathBitsCarry.pair ((x+y+c)%Extern.MathBitsCarry.m64) ((x+y+c) / Extern.MathBitsCarry.m64))
def g3R:Array Value→Sem Value:=fun args=>do
 let (x, y, b) ← Extern.MathBitsCarry.three "Sub64" args
 pure (Extern.MathBitsCarry.pair ((x+Extern.MathBitsCarry.m64-y-b)%Extern.MathBitsCarry.m64) (if x<y+b then 1 else 0))
theorem c5C (x:I .u64):0≤x.val∧x.val<18446744073709551616:=by
 have h:=x.ok
 simp only [IntKind.wrap,IntKind.bits,IntKind.signed,Bool.false_and,Bool.false_eq_true,if_false] at h
 constructor
 ·
  rw [← h]; exact Int.emod_nonneg _ (by decide)
 ·
  rw [← h]; exact Int.emod_lt_of_pos _ (by decide)
theorem wrap_u64 (n:Int):IntKind.u64.wrap n=n%18446744073709551616:=rfl
theorem e0G {P : Program} {f : FuncId} {fn : Func} {e : Array Value → Sem Value} (hf : P.funcs[f]? = some fn) (hb : fn.body = none) (hn : (fn.name == "runtime.NumGoroutine") = false) (hx : (Extern.findNext fn).isNone = true) (he : Extern.find fn = some e) (args : Array Value) (w : World) {v : Value} (hr : (e args).run P w = .ok v w) :
  (callFunc f args).run P w=.ok (.value v) w:=by
 unfold callFunc
 rw [Sem.run_bind]
 have:(program:Sem Program).run P w=.ok P w:=rfl
 rw [this,Result.andThen_ok]
 simp only [hf,hn,hb,Option.isNone_none,if_true,Bool.false_eq_true,if_false]
 rw [Option.isNone_iff_eq_none] at hx
 simp only [hx,he]
 rw [Sem.run_bind]
 have hm:(mark (.extern f):Sem Unit).run P w=.ok () w:=rfl
 rw [hm,Result.andThen_ok]
 simp [hr]
theorem e4S {P:Program} {s:String} {w:World} (x y c:I .u64) (hc:Nat.ble c.nat 1=true):(Extern.MathBitsCarry.three s #[.int .u64 x.val,.int .u64 y.val,.int .u64 c.val]).run P w=.ok (x.nat,y.nat,c.nat) w:=by
 have hc:¬ c.val.toNat>1:=by have:=Nat.le_of_ble_eq_true hc; simp only [I.nat] at this; omega
 have h3:∀ (x y c:Value),Extern.MathBitsCarry.three s #[x,y,c]=(do
  let c:=(← asInt c).toNat
  if c > 1 then unsupported (.noEntry ("extern/math/bits." ++ s ++ ": a carry that is neither 0 nor 1"))
  pure ((← asInt x).toNat,(← asInt y).toNat,c)):=fun _ _ _=>rfl
 rw [h3]
 have ha:∀ (i:I .u64),(asInt (.int .u64 i.val)).run P w=.ok i.val w:=fun i=>rfl
 simp only [Sem.run_bind,ha,Result.andThen_ok,hc,if_false,Sem.run_pure]
 rfl
theorem e4K {P:Program} {f:FuncId} {F:(⟨[.pl u64,.pl u64,.pl u64],[]⟩:Tm).D→Option (⟨[.pl u64,.pl u64],[]⟩:Tm).D}
  (h:∀ (x y c:I .u64) (z q:I .u64),F ((x,y,c,()),())=some ((z,q,()),())→∀ w,(callFunc f #[.int .u64 x.val,.int .u64 y.val,.int .u64 c.val]).run P w=.ok (.value (.tuple #[.int .u64 z.val,.int .u64 q.val])) w) :
  a0Z P f ⟨_,_,F⟩:=by
 rintro ⟨⟨x,y,c,⟨⟩⟩,⟨⟩⟩ ⟨⟨z,q,⟨⟩⟩,⟨⟩⟩ hF cx vals hS hH hargs
 match vals,hargs with
 | [a,b,d],⟨h1,h2,h3,_⟩ =>
  left
  rw [b6X h1,b6X h2,b6X h3]
  refine ⟨_,_,h x y c z q hF cx.w,cx,rfl,hH,⟨[_,_],rfl,[_],[_],rfl,rfl,[_],[],rfl,rfl,rfl⟩,hS.mem,fun _ _=>rfl⟩
theorem g1E {P : Program} {f : FuncId} {fn : Func} (hf : P.funcs[f]? = some fn) (hb : fn.body = none) (hn : (fn.name == "runtime.NumGoroutine") = false) (hx : (Extern.findNext fn).isNone = true) (he : Extern.find fn = some g3N) : a0Z P f f6Q := by
 refine e4K fun x y c z q hF w=>e0G hf hb hn hx he _ w ?_
 simp only [e9N] at hF
 split at hF
 ·
  rename_i hc
  have hF:=Option.some.inj hF
  have e1:=congrArg (fun (p:(I .u64×I .u64×Unit)×Unit)=>p.1.1) hF
  have e2:=congrArg (fun (p:(I .u64×I .u64×Unit)×Unit)=>p.1.2.1) hF
  simp only at e1 e2
  subst e1 e2
  simp only [g3N,Sem.run_bind,e4S x y c hc,Result.andThen_ok,Sem.run_pure]
  have rx:=c5C x
  have ry:=c5C y
  have rc:=c5C c
  have hc:c.val.toNat≤1:=Nat.le_of_ble_eq_true hc
  unfold Extern.MathBitsCarry.pair I.nat Extern.MathBitsCarry.m64
  congr
  ·
   show Int.ofNat _=IntKind.u64.wrap _
   rw [wrap_u64]
   try simp only [Int.ofNat_eq_natCast]
   omega
  ·
   show Int.ofNat _=IntKind.u64.wrap _
   rw [wrap_u64]
   try simp only [Int.ofNat_eq_natCast]
   omega
 ·
  cases hF
theorem f9G {P : Program} {f : FuncId} {fn : Func} (hf : P.funcs[f]? = some fn) (hb : fn.body = none) (hn : (fn.name == "runtime.NumGoroutine") = false) (hx : (Extern.findNext fn).isNone = true) (he : Extern.find fn = some g3R) : a0Z P f f8M := by
 refine e4K fun x y c z q hF w=>e0G hf hb hn hx he _ w ?_
 simp only [f5G] at hF
 split at hF
 ·
  rename_i hc
  have hF:=Option.some.inj hF
  have e1:=congrArg (fun (p:(I .u64×I .u64×Unit)×Unit)=>p.1.1) hF
  have e2:=congrArg (fun (p:(I .u64×I .u64×Unit)×Unit)=>p.1.2.1) hF
  simp only at e1 e2
  subst e1 e2
  simp only [g3R,Sem.run_bind,e4S x y c hc,Result.andThen_ok,Sem.run_pure]
  have rx:=c5C x
  have ry:=c5C y
  have rc:=c5C c
  have hc:c.val.toNat≤1:=Nat.le_of_ble_eq_true hc
  unfold Extern.MathBitsCarry.pair I.nat Extern.MathBitsCarry.m64
  congr
  ·
   show Int.ofNat _=IntKind.u64.wrap _
   rw [wrap_u64]
   try simp only [Int.ofNat_eq_natCast]
   omega
  ·
   show Int.ofNat _=IntKind.u64.wrap _
   rw [wrap_u64]
   by_cases hlt:x.val<y.val+c.val
   ·
    rw [if_pos (by omega)]
    simp [hlt]
   ·
    rw [if_neg (by omega)]
    simp [hlt]
 ·
  cases hF
end Sym

/- An environment out of lists. -/
namespace Sym
open Go
def f3N {X:Type}:List (Nat×X)→Nat→Option X
 | [],_=>none
 | (i,x)::l,n=>match Nat.beq i n with
  | true=>some x
  | false=>f3N l n
theorem c7C {X:Type}:∀ {l:List (Nat×X)} {n:Nat} {x:X},f3N l n=some x→(n,x)∈l
 | (i,y)::l,n,x,h=>by
  simp only [f3N] at h
  split at h
  ·
   rename_i hb
   have:=Nat.eq_of_beq_eq_true hb
   subst this
   simp only [Option.some.injEq] at h
   subst h
   exact List.mem_cons_self
  ·
   exact List.mem_cons_of_mem _ (c7C h)
def h8K:List Nat→Nat→Bool
 | [],_=>false
 | i::l,n=>Nat.beq i n||h8K l n
def f9R:List (Nat×String×FuncId×Option Nat)→Nat→String→Option (FuncId×Option Nat)
 | [],_,_=>none
 | (i,s,f,d)::l,n,m=>match Nat.beq i n&&s == m with
  | true=>some (f,d)
  | false=>f9R l n m
def e7F (P:Program) (tys:List (Nat×Ty)) (eqs:List (Nat×Ty)) (hows:List (Nat×How)) (own:List Nat:=[]) (meths:List (Nat×String×FuncId×Option Nat):=[]):Env:=⟨P,f3N tys,f3N eqs,f3N hows,h8K own,f9R meths⟩
theorem e9R {P:Program}:∀ {l:List (Nat×String×FuncId×Option Nat)} {n:Nat} {m:String} {f:FuncId} {d:Option Nat},l.all (fun x=>f6J P x.1 x.2.1 x.2.2.1 x.2.2.2)=true→f9R l n m=some (f,d)→d3I P n m f d
 | [],_,_,_,_,_,h=>by cases h
 | (i,s,g,e)::l,n,m,f,d,ha,h=>by
  simp only [List.all_cons,Bool.and_eq_true] at ha
  simp only [f9R] at h
  split at h
  ·
   rename_i hb
   simp only [Bool.and_eq_true,beq_iff_eq] at hb
   have h1:=Nat.eq_of_beq_eq_true hb.1
   have h2:=hb.2
   simp only [Option.some.injEq,Prod.mk.injEq] at h
   obtain ⟨rfl,rfl⟩:=h
   subst h1 h2
   exact g8K ha.1
  ·
   exact e9R ha.2 h
def HowsOk (P:Program):List (Nat×How)→Prop
 | []=>True
 | (f,.con C)::l=>a0Z P f C∧HowsOk P l
 | (_,.inl)::l=>HowsOk P l
 | (f,.fresh C)::l=>c2J P f C∧HowsOk P l
theorem HowsOk.con {P:Program}:∀ {l:List (Nat×How)} {f:FuncId} {C:Con},HowsOk P l→(f,How.con C)∈l→a0Z P f C
 | (g,.con D)::l,f,C,h,hm=>by
  simp only [List.mem_cons] at hm
  rcases hm with hm | hm
  ·
   injection hm with h1 h2
   injection h2 with h2
   subst h1 h2
   exact h.1
  ·
   exact HowsOk.con h.2 hm
 | (g,.inl)::l,f,C,h,hm=>by
  simp only [List.mem_cons] at hm
  rcases hm with hm | hm
  ·
   injection hm with h1 h2
   cases h2
  ·
   exact HowsOk.con (l:=l) h hm
 | (g,.fresh D)::l,f,C,h,hm=>by
  simp only [List.mem_cons] at hm
  rcases hm with hm | hm
  ·
   injection hm with h1 h2
   cases h2
  ·
   exact HowsOk.con h.2 hm
theorem HowsOk.fresh {P:Program}:∀ {l:List (Nat×How)} {f:FuncId} {C:Con},HowsOk P l→(f,How.fresh C)∈l→c2J P f C
 | (g,.fresh D)::l,f,C,h,hm=>by
  simp only [List.mem_cons] at hm
  rcases hm with hm | hm
  ·
   injection hm with h1 h2
   injection h2 with h2
   subst h1 h2
   exact h.1
  ·
   exact HowsOk.fresh h.2 hm
 | (g,.inl)::l,f,C,h,hm=>by
  simp only [List.mem_cons] at hm
  rcases hm with hm | hm
  ·
   injection hm with h1 h2
   cases h2
  ·
   exact HowsOk.fresh (l:=l) h hm
 | (g,.con D)::l,f,C,h,hm=>by
  simp only [List.mem_cons] at hm
  rcases hm with hm | hm
  ·
   injection hm with h1 h2
   cases h2
  ·
   exact HowsOk.fresh h.2 hm
def h3E (P:Program) (id:TypeId) (t:Ty):Bool:=tiB P id t&&(t.isOpq||(f8K P t id&&(Nat.ble t.dep 9000&&(!t.isAgg||!P.eqGuardType P.depth id))))
theorem h1N {P:Program} {id:TypeId} {t:Ty} (h:h3E P id t=true):EqI P id t:=by
 unfold h3E at h
 simp only [Bool.and_eq_true,Bool.or_eq_true,Bool.not_eq_true'] at h
 obtain ⟨h1,h2⟩:=h
 refine ⟨(h0K h1).ok,?_⟩
 rcases h2 with h2 | ⟨h2,h3,h4⟩
 ·
  left; cases t<;>first | rfl | cases h2
 ·
  right; exact ⟨h2,Nat.le_of_ble_eq_true h3,fun ha=>h4.resolve_left (by rw [ha]; simp)⟩
theorem g8O {P:Program} {tys eqs:List (Nat×Ty)} {hows:List (Nat×How)} (h1:tys.all (fun x=>tiB P x.1 x.2)=true) (h2:eqs.all (fun x=>h3E P x.1 x.2)=true) (h3:HowsOk P hows) (h4:P.follows .mixedOrders=true) {own:List Nat} {meths:List (Nat×String×FuncId×Option Nat)} (h5:meths.all (fun x=>f6J P x.1 x.2.1 x.2.2.1 x.2.2.2)=true:=by rfl):EnvOk (e7F P tys eqs hows own meths):=by
 refine ⟨fun id t h=>?_,fun id t h=>?_,fun f C h=>h3.con (c7C h),fun f C h=>h3.fresh (c7C h),h4,fun t name f d h=>e9R h5 h⟩
 ·
  rw [List.all_eq_true] at h1
  exact h0K (h1 _ (c7C h))
 ·
  rw [List.all_eq_true] at h2
  exact h1N (h2 _ (c7C h))
theorem g0W {P : Program} (h : P.funcs.toList.all (fun fn => !(fn.name == "runtime.NumGoroutine")) = true) : f4T P := by
 intro f fn hf
 rw [List.all_eq_true] at h
 have:fn∈P.funcs.toList:=by
  rw [← Array.getElem?_toList] at hf
  exact List.mem_of_getElem? hf
 have:=h fn this
 simpa using this
def dd:Nat→List Sh→List Sh
 | 0,l=>l
 | n+1,l=>.dead::dd n l
def eqP:List Nat→List Nat→Bool
 | [],[]=>true
 | a::l,b::m=>Nat.beq a b&&eqP l m
 | _,_=>false
def b0H:List (List Nat×Nat×Ann)→g4T
 | [],_,_=>none
 | (p,c,a)::l,q,d=>if (eqP p q&&Nat.beq c d)=true then some a else b0H l q d
end Sym

/- Whole numbers of 256 bits: what the four words are worth. -/
namespace Sym
open Go
abbrev U:Type:=I .u64×I .u64×I .u64×I .u64×Unit
abbrev a1K:Ty:=.arr 4 (.int .u64)
abbrev i64:Ty:=.int .i64
theorem a2G (x:I .u64):(x.nat:Int)=x.val:=by
 have:=(c5C x).1
 simp only [I.nat]; omega
theorem a3A (x:I .u64):x.nat<18446744073709551616:=by
 have:=c5C x
 simp only [I.nat]; omega
theorem b7N {n:Nat} (h:n<18446744073709551616):(I.of .u64 (n:Int)).nat=n:=by
 show (IntKind.u64.wrap n).toNat=n
 rw [wrap_u64]; omega
theorem g4U (x:I .u64):I.of .u64 (x.nat:Int)=x:=by
 apply I.ext'
 show IntKind.u64.wrap _=_
 rw [a2G]; exact x.ok
def U.val (a:U):Nat:=a.1.nat+18446744073709551616*(a.2.1.nat+18446744073709551616*(a.2.2.1.nat+18446744073709551616*a.2.2.2.1.nat))
def U.of (n:Nat):U:=(I.of .u64 ((n%18446744073709551616:Nat):Int),I.of .u64 ((n / 18446744073709551616%18446744073709551616:Nat):Int),I.of .u64 ((n / 340282366920938463463374607431768211456%18446744073709551616:Nat):Int),I.of .u64 ((n / 6277101735386680763835789423207666416102355444464034512896%18446744073709551616:Nat):Int),())
def U.top:Nat:=115792089237316195423570985008687907853269984665640564039457584007913129639936
theorem U.lt (a:U):a.val<U.top:=by
 have h0:=a3A a.1
 have h1:=a3A a.2.1
 have h2:=a3A a.2.2.1
 have h3:=a3A a.2.2.2.1
 unfold U.val U.top
 omega
theorem U.val_of {n:Nat} (h:n<U.top):(U.of n).val=n:=by
 unfold U.val U.of
 unfold U.top at h
 simp only
 rw [b7N (by omega),b7N (by omega),b7N (by omega),b7N (by omega)]
 omega
theorem U.ext {a b:U} (h:a.val=b.val):a=b:=by
 obtain ⟨a0,a1,a2,a3,⟨⟩⟩:=a
 obtain ⟨b0,b1,b2,b3,⟨⟩⟩:=b
 unfold U.val at h
 simp only at h
 have i0:=a3A a0
 have i1:=a3A a1
 have i2:=a3A a2
 have i3:=a3A a3
 have j0:=a3A b0
 have j1:=a3A b1
 have j2:=a3A b2
 have j3:=a3A b3
 have e:∀ {x y:I .u64},x.nat=y.nat→x=y:=fun {x y} h=>by rw [← g4U x,← g4U y,h]
 rw [e (show a0.nat=b0.nat by omega),e (show a1.nat=b1.nat by omega),e (show a2.nat=b2.nat by omega),e (show a3.nat=b3.nat by omega)]
theorem U.of_val (a:U):U.of a.val=a:=U.ext (U.val_of a.lt)
end Sym

/- What the functions of uint256 compute, told of whole numbers. (The functions are as the printer gave them.) -/
namespace Sym
open Go
abbrev UU:Tm:=⟨[.pl a1K,.pl a1K],[]⟩
def c1W (x:UU.D):Option (⟨[.pl i64],[]⟩:Tm).D :=
 let a:U:=x.1.1
 let b:U:=x.1.2.1
 brn (@I.ltb .u64 a.2.2.2.1 b.2.2.2.1)
 (some (((I.of .i64 (-1)),()),()))
 (brn (@I.ltb .u64 b.2.2.2.1 a.2.2.2.1)
  (some (((I.of .i64 1),()),()))
  (brn (@I.ltb .u64 a.2.2.1 b.2.2.1)
  (some (((I.of .i64 (-1)),()),()))
  (brn (@I.ltb .u64 b.2.2.1 a.2.2.1)
   (some (((I.of .i64 1),()),()))
   (brn (@I.ltb .u64 a.2.1 b.2.1)
   (some (((I.of .i64 (-1)),()),()))
   (brn (@I.ltb .u64 b.2.1 a.2.1)
    (some (((I.of .i64 1),()),()))
    (brn (@I.ltb .u64 a.1 b.1)
    (some (((I.of .i64 (-1)),()),()))
    (brn (@I.ltb .u64 b.1 a.1)
     (some (((I.of .i64 1),()),()))
     (some (((I.of .i64 0),()),())))))))))
theorem c5K (x y:I .u64):I.ltb x y=decide (x.nat<y.nat):=by
 unfold I.ltb
 rw [← a2G,← a2G]
 simp
def f4J (a b:U):U×I .i64:=if b.val≤a.val then (U.of (a.val-b.val),I.of .i64 0) else (U.of 0,I.of .i64 4)
end Sym

/- Rounds: more than any run takes, and never counted out. -/
namespace Sym
open Go
noncomputable def d9K (l:List Nat):List (I .u8):=l.map fun (n:Nat)=>I.of .u8 (n:Int)
theorem e9O:∃ k:Nat,k=2^64:=⟨_,rfl⟩
noncomputable def K0:Nat:=Classical.choose e9O
theorem a6Z:K0=2^64:=Classical.choose_spec e9O
end Sym

/- The given functions as plain functions, as the printer told them. -/
namespace Sym
open Go
noncomputable section
def a6Q (K:Nat) (x:(⟨[.pl (.sl (.int .i64))],[]⟩:Tm).D):Option (⟨[.pl (.sl (.int .i64))],[]⟩:Tm).D :=
 let a:List (I .i64):=x.1.1
 iter none (fun x0=>brn (I.ltb (I.of .i64 0) x0.1.2.1) (brn (inB (I.sub x0.1.2.1 (I.of .i64 1)) (@a0K (I .i64) x0.1.1)) (brn (I.eqb (@rdL (I .i64) (I.of .i64 0) x0.1.1 (I.nat (I.sub x0.1.2.1 (I.of .i64 1)))) (I.of .i64 0)) (.again ((x0.1.1,((I.sub x0.1.2.1 (I.of .i64 1)),())),())) (.done (brn (inB' x0.1.2.1 (@a0K (I .i64) x0.1.1)) (some (((@a3T (I .i64) x0.1.1 0 (I.nat x0.1.2.1)),()),())) none))) (.done none)) (.done (brn (inB' x0.1.2.1 (@a0K (I .i64) x0.1.1)) (some (((@a3T (I .i64) x0.1.1 0 (I.nat x0.1.2.1)),()),())) none))) K ((a,((I.ofNat .i64 (@a0K (I .i64) a)),())),())
def a2X (K:Nat) (x:(⟨[.pl (.sl (.int .i64)),.pl (.sl (.int .i64))],[]⟩:Tm).D):Option (⟨[.pl (.int .i64)],[]⟩:Tm).D :=
 let a:List (I .i64):=x.1.1
 let b:List (I .i64):=x.1.2.1
 brn (I.neb (I.ofNat .i64 (@a0K (I .i64) a)) (I.ofNat .i64 (@a0K (I .i64) b))) (brn (I.ltb (I.ofNat .i64 (@a0K (I .i64) a)) (I.ofNat .i64 (@a0K (I .i64) b))) (some (((I.of .i64 (-1)),()),())) (some ((I.of .i64 1,()),()))) (iter none (fun x0=>brn (I.leb (I.of .i64 0) x0.1.2.2.1) (brn (inB x0.1.2.2.1 (@a0K (I .i64) x0.1.1)) (brn (inB x0.1.2.2.1 (@a0K (I .i64) x0.1.2.1)) (brn (I.ltb (@rdL (I .i64) (I.of .i64 0) x0.1.1 (I.nat x0.1.2.2.1)) (@rdL (I .i64) (I.of .i64 0) x0.1.2.1 (I.nat x0.1.2.2.1))) (.done (some (((I.of .i64 (-1)),()),()))) (brn (inB x0.1.2.2.1 (@a0K (I .i64) x0.1.1)) (brn (inB x0.1.2.2.1 (@a0K (I .i64) x0.1.2.1)) (brn (I.ltb (@rdL (I .i64) (I.of .i64 0) x0.1.2.1 (I.nat x0.1.2.2.1)) (@rdL (I .i64) (I.of .i64 0) x0.1.1 (I.nat x0.1.2.2.1))) (.done (some ((I.of .i64 1,()),()))) (.again ((x0.1.1,(x0.1.2.1,((I.sub x0.1.2.2.1 (I.of .i64 1)),()))),()))) (.done none)) (.done none))) (.done none)) (.done none)) (.done (some ((I.of .i64 0,()),())))) K ((a,(b,((I.sub (I.ofNat .i64 (@a0K (I .i64) a)) (I.of .i64 1)),()))),()))
def a2Q (K:Nat) (x:(⟨[.pl (.sl (.int .i64)),.pl (.sl (.int .i64))],[]⟩:Tm).D):Option (⟨[.pl (.sl (.int .i64))],[]⟩:Tm).D :=
 let a:List (I .i64):=x.1.1
 let b:List (I .i64):=x.1.2.1
 brn (inB' (I.ofNat .i64 (@a0K (I .i64) a)) (I.nat (I.ofNat .i64 (@a0K (I .i64) a)))) (brn (inB' (I.ofNat .i64 (@a0K (I .i64) a)) 1073741824) (iter none (fun x0=>brn (I.ltb x0.1.2.2.2.1 (I.ofNat .i64 (@a0K (I .i64) x0.1.1))) (brn (inB x0.1.2.2.2.1 (@a0K (I .i64) x0.1.1)) (jn (fun (x1:(((List (I .i64))×((List (I .i64))×((I .i64)×((I .i64)×Unit))))×((List (I .i64))×Unit)))=>brn (I.ltb x1.1.2.2.2.1 (I.of .i64 0)) (brn (inB x1.1.2.2.1 (@a0K (I .i64) x1.2.1)) (.again ((x1.1.1,(x1.1.2.1,(I.of .i64 1,((I.add x1.1.2.2.1 (I.of .i64 1)),())))),((@b9T (I .i64) x1.2.1 (I.nat x1.1.2.2.1) (I.add x1.1.2.2.2.1 (I.of .i64 65536))),()))) (.done none)) (brn (inB x1.1.2.2.1 (@a0K (I .i64) x1.2.1)) (.again ((x1.1.1,(x1.1.2.1,(I.of .i64 0,((I.add x1.1.2.2.1 (I.of .i64 1)),())))),((@b9T (I .i64) x1.2.1 (I.nat x1.1.2.2.1) x1.1.2.2.2.1),()))) (.done none))) fun j1=>brn (I.ltb x0.1.2.2.2.1 (I.ofNat .i64 (@a0K (I .i64) x0.1.2.1))) (brn (inB x0.1.2.2.2.1 (@a0K (I .i64) x0.1.2.1)) (j1 ((x0.1.1,(x0.1.2.1,(x0.1.2.2.2.1,((I.sub (I.sub (@rdL (I .i64) (I.of .i64 0) x0.1.1 (I.nat x0.1.2.2.2.1)) x0.1.2.2.1) (@rdL (I .i64) (I.of .i64 0) x0.1.2.1 (I.nat x0.1.2.2.2.1))),())))),(x0.2.1,()))) (.done none)) (j1 ((x0.1.1,(x0.1.2.1,(x0.1.2.2.2.1,((I.sub (@rdL (I .i64) (I.of .i64 0) x0.1.1 (I.nat x0.1.2.2.2.1)) x0.1.2.2.1),())))),(x0.2.1,())))) (.done none)) (.done (iter none (fun x1=>brn (I.ltb (I.of .i64 0) x1.1.1) (brn (inB (I.sub x1.1.1 (I.of .i64 1)) (@a0K (I .i64) x1.2.1)) (brn (I.eqb (@rdL (I .i64) (I.of .i64 0) x1.2.1 (I.nat (I.sub x1.1.1 (I.of .i64 1)))) (I.of .i64 0)) (.again (((I.sub x1.1.1 (I.of .i64 1)),()),(x1.2.1,()))) (.done (brn (inB' x1.1.1 (@a0K (I .i64) x1.2.1)) (some (((@a3T (I .i64) x1.2.1 0 (I.nat x1.1.1)),()),())) none))) (.done none)) (.done (brn (inB' x1.1.1 (@a0K (I .i64) x1.2.1)) (some (((@a3T (I .i64) x1.2.1 0 (I.nat x1.1.1)),()),())) none))) K (((I.ofNat .i64 (@a0K (I .i64) x0.2.1)),()),(x0.2.1,()))))) K ((a,(b,(I.of .i64 0,(I.of .i64 0,())))),((@g5V (I .i64) (I.nat (I.ofNat .i64 (@a0K (I .i64) a))) (I.of .i64 0)),()))) none) none
def b0P (K:Nat) (x:(⟨[.pl (.sl (.int .i64)),.pl (.int .i64)],[]⟩:Tm).D):Option (⟨[.pl (.sl (.int .i64)),.pl (.sl (.int .i64))],[]⟩:Tm).D :=
 let a:List (I .i64):=x.1.1
 let b:I .i64:=x.1.2.1
 brn (inB' (I.ofNat .i64 (@a0K (I .i64) a)) (I.nat (I.ofNat .i64 (@a0K (I .i64) a)))) (brn (inB' (I.ofNat .i64 (@a0K (I .i64) a)) 1073741824) (iter none (fun x0=>brn (I.leb (I.of .i64 0) x0.1.2.2.2.1) (brn (inB x0.1.2.2.2.1 (@a0K (I .i64) x0.1.1)) (brn (I.nz x0.1.2.1) (brn (I.nz x0.1.2.1) (brn (inB x0.1.2.2.2.1 (@a0K (I .i64) x0.2.1)) (.again ((x0.1.1,(x0.1.2.1,((I.rem (I.add (I.mul (I.of .i64 65536) x0.1.2.2.1) (@rdL (I .i64) (I.of .i64 0) x0.1.1 (I.nat x0.1.2.2.2.1))) x0.1.2.1),((I.sub x0.1.2.2.2.1 (I.of .i64 1)),())))),((@b9T (I .i64) x0.2.1 (I.nat x0.1.2.2.2.1) (I.quo (I.add (I.mul (I.of .i64 65536) x0.1.2.2.1) (@rdL (I .i64) (I.of .i64 0) x0.1.1 (I.nat x0.1.2.2.2.1))) x0.1.2.1)),()))) (.done none)) (.done none)) (.done none)) (.done none)) (.done (optF none (a6Q K ((x0.2.1,()),())) fun y1=>optF none (a6Q K (((x0.1.2.2.1::[]),()),())) fun y2=>some ((y1.1.1,(y2.1.1,())),())))) K ((a,(b,(I.of .i64 0,((I.sub (I.ofNat .i64 (@a0K (I .i64) a)) (I.of .i64 1)),())))),((@g5V (I .i64) (I.nat (I.ofNat .i64 (@a0K (I .i64) a))) (I.of .i64 0)),()))) none) none
def a3R (K:Nat) (x:(⟨[.pl (.sl (.int .i64)),.pl (.sl (.int .i64))],[]⟩:Tm).D):Option (⟨[.pl (.sl (.int .i64)),.pl (.sl (.int .i64))],[]⟩:Tm).D :=
 let a:List (I .i64):=x.1.1
 let b:List (I .i64):=x.1.2.1
 brn (I.eqb (I.ofNat .i64 (@a0K (I .i64) b)) (I.of .i64 1)) (brn (inB (I.of .i64 0) (@a0K (I .i64) b)) (optF none (b0P K ((a,((@rdL (I .i64) (I.of .i64 0) b 0),())),())) fun y0=>some ((y0.1.1,(y0.1.2.1,())),())) none) (brn (inB' (I.ofNat .i64 (@a0K (I .i64) a)) (I.nat (I.ofNat .i64 (@a0K (I .i64) a)))) (brn (inB' (I.ofNat .i64 (@a0K (I .i64) a)) 1073741824) (brn (inB' (I.add (I.ofNat .i64 (@a0K (I .i64) b)) (I.of .i64 1)) (I.nat (I.add (I.ofNat .i64 (@a0K (I .i64) b)) (I.of .i64 1)))) (brn (inB' (I.add (I.ofNat .i64 (@a0K (I .i64) b)) (I.of .i64 1)) 1073741824) (iter none (fun x0=>brn (I.leb (I.of .i64 0) x0.1.2.2.1) (iter (.done none) (fun x1=>brn (I.leb (I.of .i64 0) x1.1.2.2.2.1) (brn (inB x1.1.2.2.1 (@a0K (I .i64) x1.1.1)) (brn (I.nn (I.conv (k:=.i64) .u64 x1.1.2.2.2.1)) (iter (.done (.done none)) (fun x2=>brn (I.ltb x2.1.2.2.2.2.2.1 (I.ofNat .i64 (@a0K (I .i64) x2.2.2.1))) (brn (inB x2.1.2.2.2.2.2.1 (@a0K (I .i64) x2.2.2.1)) (brn (inB x2.1.2.2.2.2.2.1 (@a0K (I .i64) x2.2.2.1)) (.again ((x2.1.1,(x2.1.2.1,(x2.1.2.2.1,(x2.1.2.2.2.1,((I.shr (I.add x2.1.2.2.2.2.1 (I.mul (I.of .i64 2) (@rdL (I .i64) (I.of .i64 0) x2.2.2.1 (I.nat x2.1.2.2.2.2.2.1)))) (I.of .u64 16)),((I.add x2.1.2.2.2.2.2.1 (I.of .i64 1)),())))))),(x2.2.1,((@b9T (I .i64) x2.2.2.1 (I.nat x2.1.2.2.2.2.2.1) (I.and (I.add x2.1.2.2.2.2.1 (I.mul (I.of .i64 2) (@rdL (I .i64) (I.of .i64 0) x2.2.2.1 (I.nat x2.1.2.2.2.2.2.1)))) (I.of .i64 65535))),())))) (.done (.done (.done none)))) (.done (.done (.done none)))) (.done (iter (.done (.done none)) (fun x3=>brn (I.ltb (I.of .i64 0) x3.1.1) (brn (inB (I.sub x3.1.1 (I.of .i64 1)) (@a0K (I .i64) x3.2.1)) (brn (I.eqb (@rdL (I .i64) (I.of .i64 0) x3.2.1 (I.nat (I.sub x3.1.1 (I.of .i64 1)))) (I.of .i64 0)) (.again (((I.sub x3.1.1 (I.of .i64 1)),(x3.1.2.1,(x3.1.2.2.1,(x3.1.2.2.2.1,(x3.1.2.2.2.2.1,()))))),(x3.2.1,(x3.2.2.1,())))) (.done (brn (inB' x3.1.1 (@a0K (I .i64) x3.2.1)) (optF (.done (.done none)) (a2X K (((@a3T (I .i64) x3.2.1 0 (I.nat x3.1.1)),(x3.1.2.2.1,())),())) fun y4=>brn (I.leb (I.of .i64 0) y4.1.1) (iter (.done (.done none)) (fun x5=>brn (I.ltb (I.of .i64 0) x5.1.1) (brn (inB (I.sub x5.1.1 (I.of .i64 1)) (@a0K (I .i64) x5.2.1)) (brn (I.eqb (@rdL (I .i64) (I.of .i64 0) x5.2.1 (I.nat (I.sub x5.1.1 (I.of .i64 1)))) (I.of .i64 0)) (.again (((I.sub x5.1.1 (I.of .i64 1)),(x5.1.2.1,(x5.1.2.2.1,(x5.1.2.2.2.1,(x5.1.2.2.2.2.1,()))))),(x5.2.1,(x5.2.2.1,())))) (.done (brn (inB' x5.1.1 (@a0K (I .i64) x5.2.1)) (optF (.done (.done none)) (a2Q K (((@a3T (I .i64) x5.2.1 0 (I.nat x5.1.1)),(x5.1.2.2.1,())),())) fun y6=>iter (.done (.done none)) (fun x7=>brn (I.ltb x7.1.2.2.2.2.2.1 (I.ofNat .i64 (@a0K (I .i64) x7.2.2.1))) (brn (inB x7.1.2.2.2.2.2.1 (@a0K (I .i64) x7.2.2.1)) (brn (I.ltb x7.1.2.2.2.2.2.1 (I.ofNat .i64 (@a0K (I .i64) x7.1.2.2.2.2.1))) (brn (inB x7.1.2.2.2.2.2.1 (@a0K (I .i64) x7.1.2.2.2.2.1)) (brn (inB x7.1.2.2.2.2.2.1 (@a0K (I .i64) (@b9T (I .i64) x7.2.2.1 (I.nat x7.1.2.2.2.2.2.1) (I.of .i64 0)))) (.again ((x7.1.1,(x7.1.2.1,(x7.1.2.2.1,(x7.1.2.2.2.1,(x7.1.2.2.2.2.1,((I.add x7.1.2.2.2.2.2.1 (I.of .i64 1)),())))))),(x7.2.1,((@b9T (I .i64) (@b9T (I .i64) x7.2.2.1 (I.nat x7.1.2.2.2.2.2.1) (I.of .i64 0)) (I.nat x7.1.2.2.2.2.2.1) (@rdL (I .i64) (I.of .i64 0) x7.1.2.2.2.2.1 (I.nat x7.1.2.2.2.2.2.1))),())))) (.done (.done (.done none)))) (.done (.done (.done none)))) (.again ((x7.1.1,(x7.1.2.1,(x7.1.2.2.1,(x7.1.2.2.2.1,(x7.1.2.2.2.2.1,((I.add x7.1.2.2.2.2.2.1 (I.of .i64 1)),())))))),(x7.2.1,((@b9T (I .i64) x7.2.2.1 (I.nat x7.1.2.2.2.2.2.1) (I.of .i64 0)),()))))) (.done (.done (.done none)))) (.done (brn (inB x7.1.2.2.1 (@a0K (I .i64) x7.2.1)) (brn (I.nn (I.conv (k:=.i64) .u64 x7.1.2.2.2.1)) (brn (inB x7.1.2.2.1 (@a0K (I .i64) x7.2.1)) (.again ((x7.1.1,(x7.1.2.1,(x7.1.2.2.1,((I.sub x7.1.2.2.2.1 (I.of .i64 1)),())))),((@b9T (I .i64) x7.2.1 (I.nat x7.1.2.2.1) (I.add (@rdL (I .i64) (I.of .i64 0) x7.2.1 (I.nat x7.1.2.2.1)) (I.shl (I.of .i64 1) (I.conv (k:=.i64) .u64 x7.1.2.2.2.1)))),(x7.2.2.1,())))) (.done (.done none))) (.done (.done none))) (.done (.done none))))) K ((x5.1.2.1,(x5.1.2.2.1,(x5.1.2.2.2.1,(x5.1.2.2.2.2.1,(y6.1.1,(I.of .i64 0,())))))),(x5.2.2.1,(x5.2.1,())))) (.done (.done none))))) (.done (.done (.done none)))) (.done (brn (inB' x5.1.1 (@a0K (I .i64) x5.2.1)) (optF (.done (.done none)) (a2Q K (((@a3T (I .i64) x5.2.1 0 (I.nat x5.1.1)),(x5.1.2.2.1,())),())) fun y6=>iter (.done (.done none)) (fun x7=>brn (I.ltb x7.1.2.2.2.2.2.1 (I.ofNat .i64 (@a0K (I .i64) x7.2.2.1))) (brn (inB x7.1.2.2.2.2.2.1 (@a0K (I .i64) x7.2.2.1)) (brn (I.ltb x7.1.2.2.2.2.2.1 (I.ofNat .i64 (@a0K (I .i64) x7.1.2.2.2.2.1))) (brn (inB x7.1.2.2.2.2.2.1 (@a0K (I .i64) x7.1.2.2.2.2.1)) (brn (inB x7.1.2.2.2.2.2.1 (@a0K (I .i64) (@b9T (I .i64) x7.2.2.1 (I.nat x7.1.2.2.2.2.2.1) (I.of .i64 0)))) (.again ((x7.1.1,(x7.1.2.1,(x7.1.2.2.1,(x7.1.2.2.2.1,(x7.1.2.2.2.2.1,((I.add x7.1.2.2.2.2.2.1 (I.of .i64 1)),())))))),(x7.2.1,((@b9T (I .i64) (@b9T (I .i64) x7.2.2.1 (I.nat x7.1.2.2.2.2.2.1) (I.of .i64 0)) (I.nat x7.1.2.2.2.2.2.1) (@rdL (I .i64) (I.of .i64 0) x7.1.2.2.2.2.1 (I.nat x7.1.2.2.2.2.2.1))),())))) (.done (.done (.done none)))) (.done (.done (.done none)))) (.again ((x7.1.1,(x7.1.2.1,(x7.1.2.2.1,(x7.1.2.2.2.1,(x7.1.2.2.2.2.1,((I.add x7.1.2.2.2.2.2.1 (I.of .i64 1)),())))))),(x7.2.1,((@b9T (I .i64) x7.2.2.1 (I.nat x7.1.2.2.2.2.2.1) (I.of .i64 0)),()))))) (.done (.done (.done none)))) (.done (brn (inB x7.1.2.2.1 (@a0K (I .i64) x7.2.1)) (brn (I.nn (I.conv (k:=.i64) .u64 x7.1.2.2.2.1)) (brn (inB x7.1.2.2.1 (@a0K (I .i64) x7.2.1)) (.again ((x7.1.1,(x7.1.2.1,(x7.1.2.2.1,((I.sub x7.1.2.2.2.1 (I.of .i64 1)),())))),((@b9T (I .i64) x7.2.1 (I.nat x7.1.2.2.1) (I.add (@rdL (I .i64) (I.of .i64 0) x7.2.1 (I.nat x7.1.2.2.1)) (I.shl (I.of .i64 1) (I.conv (k:=.i64) .u64 x7.1.2.2.2.1)))),(x7.2.2.1,())))) (.done (.done none))) (.done (.done none))) (.done (.done none))))) K ((x5.1.2.1,(x5.1.2.2.1,(x5.1.2.2.2.1,(x5.1.2.2.2.2.1,(y6.1.1,(I.of .i64 0,())))))),(x5.2.2.1,(x5.2.1,())))) (.done (.done none))))) K (((I.ofNat .i64 (@a0K (I .i64) x3.2.1)),(x3.1.2.1,(x3.1.2.2.1,(x3.1.2.2.2.1,(x3.1.2.2.2.2.1,()))))),(x3.2.1,(x3.2.2.1,())))) (.again ((x3.1.2.1,(x3.1.2.2.1,(x3.1.2.2.2.1,((I.sub x3.1.2.2.2.2.1 (I.of .i64 1)),())))),(x3.2.2.1,(x3.2.1,()))))) (.done (.done none))))) (.done (.done (.done none)))) (.done (brn (inB' x3.1.1 (@a0K (I .i64) x3.2.1)) (optF (.done (.done none)) (a2X K (((@a3T (I .i64) x3.2.1 0 (I.nat x3.1.1)),(x3.1.2.2.1,())),())) fun y4=>brn (I.leb (I.of .i64 0) y4.1.1) (iter (.done (.done none)) (fun x5=>brn (I.ltb (I.of .i64 0) x5.1.1) (brn (inB (I.sub x5.1.1 (I.of .i64 1)) (@a0K (I .i64) x5.2.1)) (brn (I.eqb (@rdL (I .i64) (I.of .i64 0) x5.2.1 (I.nat (I.sub x5.1.1 (I.of .i64 1)))) (I.of .i64 0)) (.again (((I.sub x5.1.1 (I.of .i64 1)),(x5.1.2.1,(x5.1.2.2.1,(x5.1.2.2.2.1,(x5.1.2.2.2.2.1,()))))),(x5.2.1,(x5.2.2.1,())))) (.done (brn (inB' x5.1.1 (@a0K (I .i64) x5.2.1)) (optF (.done (.done none)) (a2Q K (((@a3T (I .i64) x5.2.1 0 (I.nat x5.1.1)),(x5.1.2.2.1,())),())) fun y6=>iter (.done (.done none)) (fun x7=>brn (I.ltb x7.1.2.2.2.2.2.1 (I.ofNat .i64 (@a0K (I .i64) x7.2.2.1))) (brn (inB x7.1.2.2.2.2.2.1 (@a0K (I .i64) x7.2.2.1)) (brn (I.ltb x7.1.2.2.2.2.2.1 (I.ofNat .i64 (@a0K (I .i64) x7.1.2.2.2.2.1))) (brn (inB x7.1.2.2.2.2.2.1 (@a0K (I .i64) x7.1.2.2.2.2.1)) (brn (inB x7.1.2.2.2.2.2.1 (@a0K (I .i64) (@b9T (I .i64) x7.2.2.1 (I.nat x7.1.2.2.2.2.2.1) (I.of .i64 0)))) (.again ((x7.1.1,(x7.1.2.1,(x7.1.2.2.1,(x7.1.2.2.2.1,(x7.1.2.2.2.2.1,((I.add x7.1.2.2.2.2.2.1 (I.of .i64 1)),())))))),(x7.2.1,((@b9T (I .i64) (@b9T (I .i64) x7.2.2.1 (I.nat x7.1.2.2.2.2.2.1) (I.of .i64 0)) (I.nat x7.1.2.2.2.2.2.1) (@rdL (I .i64) (I.of .i64 0) x7.1.2.2.2.2.1 (I.nat x7.1.2.2.2.2.2.1))),())))) (.done (.done (.done none)))) (.done (.done (.done none)))) (.again ((x7.1.1,(x7.1.2.1,(x7.1.2.2.1,(x7.1.2.2.2.1,(x7.1.2.2.2.2.1,((I.add x7.1.2.2.2.2.2.1 (I.of .i64 1)),())))))),(x7.2.1,((@b9T (I .i64) x7.2.2.1 (I.nat x7.1.2.2.2.2.2.1) (I.of .i64 0)),()))))) (.done (.done (.done none)))) (.done (brn (inB x7.1.2.2.1 (@a0K (I .i64) x7.2.1)) (brn (I.nn (I.conv (k:=.i64) .u64 x7.1.2.2.2.1)) (brn (inB x7.1.2.2.1 (@a0K (I .i64) x7.2.1)) (.again ((x7.1.1,(x7.1.2.1,(x7.1.2.2.1,((I.sub x7.1.2.2.2.1 (I.of .i64 1)),())))),((@b9T (I .i64) x7.2.1 (I.nat x7.1.2.2.1) (I.add (@rdL (I .i64) (I.of .i64 0) x7.2.1 (I.nat x7.1.2.2.1)) (I.shl (I.of .i64 1) (I.conv (k:=.i64) .u64 x7.1.2.2.2.1)))),(x7.2.2.1,())))) (.done (.done none))) (.done (.done none))) (.done (.done none))))) K ((x5.1.2.1,(x5.1.2.2.1,(x5.1.2.2.2.1,(x5.1.2.2.2.2.1,(y6.1.1,(I.of .i64 0,())))))),(x5.2.2.1,(x5.2.1,())))) (.done (.done none))))) (.done (.done (.done none)))) (.done (brn (inB' x5.1.1 (@a0K (I .i64) x5.2.1)) (optF (.done (.done none)) (a2Q K (((@a3T (I .i64) x5.2.1 0 (I.nat x5.1.1)),(x5.1.2.2.1,())),())) fun y6=>iter (.done (.done none)) (fun x7=>brn (I.ltb x7.1.2.2.2.2.2.1 (I.ofNat .i64 (@a0K (I .i64) x7.2.2.1))) (brn (inB x7.1.2.2.2.2.2.1 (@a0K (I .i64) x7.2.2.1)) (brn (I.ltb x7.1.2.2.2.2.2.1 (I.ofNat .i64 (@a0K (I .i64) x7.1.2.2.2.2.1))) (brn (inB x7.1.2.2.2.2.2.1 (@a0K (I .i64) x7.1.2.2.2.2.1)) (brn (inB x7.1.2.2.2.2.2.1 (@a0K (I .i64) (@b9T (I .i64) x7.2.2.1 (I.nat x7.1.2.2.2.2.2.1) (I.of .i64 0)))) (.again ((x7.1.1,(x7.1.2.1,(x7.1.2.2.1,(x7.1.2.2.2.1,(x7.1.2.2.2.2.1,((I.add x7.1.2.2.2.2.2.1 (I.of .i64 1)),())))))),(x7.2.1,((@b9T (I .i64) (@b9T (I .i64) x7.2.2.1 (I.nat x7.1.2.2.2.2.2.1) (I.of .i64 0)) (I.nat x7.1.2.2.2.2.2.1) (@rdL (I .i64) (I.of .i64 0) x7.1.2.2.2.2.1 (I.nat x7.1.2.2.2.2.2.1))),())))) (.done (.done (.done none)))) (.done (.done (.done none)))) (.again ((x7.1.1,(x7.1.2.1,(x7.1.2.2.1,(x7.1.2.2.2.1,(x7.1.2.2.2.2.1,((I.add x7.1.2.2.2.2.2.1 (I.of .i64 1)),())))))),(x7.2.1,((@b9T (I .i64) x7.2.2.1 (I.nat x7.1.2.2.2.2.2.1) (I.of .i64 0)),()))))) (.done (.done (.done none)))) (.done (brn (inB x7.1.2.2.1 (@a0K (I .i64) x7.2.1)) (brn (I.nn (I.conv (k:=.i64) .u64 x7.1.2.2.2.1)) (brn (inB x7.1.2.2.1 (@a0K (I .i64) x7.2.1)) (.again ((x7.1.1,(x7.1.2.1,(x7.1.2.2.1,((I.sub x7.1.2.2.2.1 (I.of .i64 1)),())))),((@b9T (I .i64) x7.2.1 (I.nat x7.1.2.2.1) (I.add (@rdL (I .i64) (I.of .i64 0) x7.2.1 (I.nat x7.1.2.2.1)) (I.shl (I.of .i64 1) (I.conv (k:=.i64) .u64 x7.1.2.2.2.1)))),(x7.2.2.1,())))) (.done (.done none))) (.done (.done none))) (.done (.done none))))) K ((x5.1.2.1,(x5.1.2.2.1,(x5.1.2.2.2.1,(x5.1.2.2.2.2.1,(y6.1.1,(I.of .i64 0,())))))),(x5.2.2.1,(x5.2.1,())))) (.done (.done none))))) K (((I.ofNat .i64 (@a0K (I .i64) x3.2.1)),(x3.1.2.1,(x3.1.2.2.1,(x3.1.2.2.2.1,(x3.1.2.2.2.2.1,()))))),(x3.2.1,(x3.2.2.1,())))) (.again ((x3.1.2.1,(x3.1.2.2.1,(x3.1.2.2.2.1,((I.sub x3.1.2.2.2.2.1 (I.of .i64 1)),())))),(x3.2.2.1,(x3.2.1,()))))) (.done (.done none))))) K (((I.ofNat .i64 (@a0K (I .i64) x2.2.2.1)),(x2.1.1,(x2.1.2.1,(x2.1.2.2.1,(x2.1.2.2.2.1,()))))),(x2.2.2.1,(x2.2.1,())))))) K ((x1.1.1,(x1.1.2.1,(x1.1.2.2.1,(x1.1.2.2.2.1,((I.and (I.shr (@rdL (I .i64) (I.of .i64 0) x1.1.1 (I.nat x1.1.2.2.1)) (I.conv (k:=.i64) .u64 x1.1.2.2.2.1)) (I.of .i64 1)),(I.of .i64 0,())))))),(x1.2.1,(x1.2.2.1,())))) (.done (.done none))) (.done (.done none))) (.done (.again ((x1.1.1,(x1.1.2.1,((I.sub x1.1.2.2.1 (I.of .i64 1)),()))),(x1.2.1,(x1.2.2.1,())))))) K ((x0.1.1,(x0.1.2.1,(x0.1.2.2.1,(I.of .i64 15,())))),(x0.2.1,(x0.2.2.1,())))) (.done (iter none (fun x1=>brn (I.ltb (I.of .i64 0) x1.1.1) (brn (inB (I.sub x1.1.1 (I.of .i64 1)) (@a0K (I .i64) x1.2.1)) (brn (I.eqb (@rdL (I .i64) (I.of .i64 0) x1.2.1 (I.nat (I.sub x1.1.1 (I.of .i64 1)))) (I.of .i64 0)) (.again (((I.sub x1.1.1 (I.of .i64 1)),()),(x1.2.1,(x1.2.2.1,())))) (.done (brn (inB' x1.1.1 (@a0K (I .i64) x1.2.1)) (iter none (fun x2=>brn (I.ltb (I.of .i64 0) x2.1.1) (brn (inB (I.sub x2.1.1 (I.of .i64 1)) (@a0K (I .i64) x2.2.1)) (brn (I.eqb (@rdL (I .i64) (I.of .i64 0) x2.2.1 (I.nat (I.sub x2.1.1 (I.of .i64 1)))) (I.of .i64 0)) (.again (((I.sub x2.1.1 (I.of .i64 1)),(x2.1.2.1,())),(x2.2.1,()))) (.done (brn (inB' x2.1.1 (@a0K (I .i64) x2.2.1)) (some ((x2.1.2.1,((@a3T (I .i64) x2.2.1 0 (I.nat x2.1.1)),())),())) none))) (.done none)) (.done (brn (inB' x2.1.1 (@a0K (I .i64) x2.2.1)) (some ((x2.1.2.1,((@a3T (I .i64) x2.2.1 0 (I.nat x2.1.1)),())),())) none))) K (((I.ofNat .i64 (@a0K (I .i64) x1.2.2.1)),((@a3T (I .i64) x1.2.1 0 (I.nat x1.1.1)),())),(x1.2.2.1,()))) none))) (.done none)) (.done (brn (inB' x1.1.1 (@a0K (I .i64) x1.2.1)) (iter none (fun x2=>brn (I.ltb (I.of .i64 0) x2.1.1) (brn (inB (I.sub x2.1.1 (I.of .i64 1)) (@a0K (I .i64) x2.2.1)) (brn (I.eqb (@rdL (I .i64) (I.of .i64 0) x2.2.1 (I.nat (I.sub x2.1.1 (I.of .i64 1)))) (I.of .i64 0)) (.again (((I.sub x2.1.1 (I.of .i64 1)),(x2.1.2.1,())),(x2.2.1,()))) (.done (brn (inB' x2.1.1 (@a0K (I .i64) x2.2.1)) (some ((x2.1.2.1,((@a3T (I .i64) x2.2.1 0 (I.nat x2.1.1)),())),())) none))) (.done none)) (.done (brn (inB' x2.1.1 (@a0K (I .i64) x2.2.1)) (some ((x2.1.2.1,((@a3T (I .i64) x2.2.1 0 (I.nat x2.1.1)),())),())) none))) K (((I.ofNat .i64 (@a0K (I .i64) x1.2.2.1)),((@a3T (I .i64) x1.2.1 0 (I.nat x1.1.1)),())),(x1.2.2.1,()))) none))) K (((I.ofNat .i64 (@a0K (I .i64) x0.2.1)),()),(x0.2.1,(x0.2.2.1,())))))) K ((a,(b,((I.sub (I.ofNat .i64 (@a0K (I .i64) a)) (I.of .i64 1)),()))),((@g5V (I .i64) (I.nat (I.ofNat .i64 (@a0K (I .i64) a))) (I.of .i64 0)),((@g5V (I .i64) (I.nat (I.add (I.ofNat .i64 (@a0K (I .i64) b)) (I.of .i64 1))) (I.of .i64 0)),())))) none) none) none) none)
def a1M (K:Nat) (x:(⟨[.pl (.sl (.int .i64)),.pl (.sl (.int .i64))],[]⟩:Tm).D):Option (⟨[.pl (.sl (.int .i64))],[]⟩:Tm).D :=
 let a:List (I .i64):=x.1.1
 let b:List (I .i64):=x.1.2.1
 iter none (fun x0=>jn (fun (x1:(((List (I .i64))×((List (I .i64))×((I .i64)×((I .i64)×Unit))))×((List (I .i64))×Unit)))=>jn (fun (x2:(((List (I .i64))×((List (I .i64))×((I .i64)×((I .i64)×Unit))))×((List (I .i64))×Unit)))=>brn (I.ltb x2.1.2.2.2.1 (I.ofNat .i64 (@a0K (I .i64) x2.1.2.1))) (brn (inB x2.1.2.2.2.1 (@a0K (I .i64) x2.1.2.1)) (brn (a1D (@a0K (I .i64) (@a2C (I .i64) x2.2.1 ((I.and (I.add x2.1.2.2.1 (@rdL (I .i64) (I.of .i64 0) x2.1.2.1 (I.nat x2.1.2.2.2.1))) (I.of .i64 65535))::[])))) (.again ((x2.1.1,(x2.1.2.1,((I.shr (I.add x2.1.2.2.1 (@rdL (I .i64) (I.of .i64 0) x2.1.2.1 (I.nat x2.1.2.2.2.1))) (I.of .u64 16)),((I.add x2.1.2.2.2.1 (I.of .i64 1)),())))),((@a2C (I .i64) x2.2.1 ((I.and (I.add x2.1.2.2.1 (@rdL (I .i64) (I.of .i64 0) x2.1.2.1 (I.nat x2.1.2.2.2.1))) (I.of .i64 65535))::[])),()))) (.done none)) (.done none)) (brn (a1D (@a0K (I .i64) (@a2C (I .i64) x2.2.1 ((I.and x2.1.2.2.1 (I.of .i64 65535))::[])))) (.again ((x2.1.1,(x2.1.2.1,((I.shr x2.1.2.2.1 (I.of .u64 16)),((I.add x2.1.2.2.2.1 (I.of .i64 1)),())))),((@a2C (I .i64) x2.2.1 ((I.and x2.1.2.2.1 (I.of .i64 65535))::[])),()))) (.done none))) fun j2=>brn (I.ltb x1.1.2.2.2.1 (I.ofNat .i64 (@a0K (I .i64) x1.1.1))) (brn (inB x1.1.2.2.2.1 (@a0K (I .i64) x1.1.1)) (j2 ((x1.1.1,(x1.1.2.1,((I.add x1.1.2.2.1 (@rdL (I .i64) (I.of .i64 0) x1.1.1 (I.nat x1.1.2.2.2.1))),(x1.1.2.2.2.1,())))),(x1.2.1,()))) (.done none)) (j2 ((x1.1.1,(x1.1.2.1,(x1.1.2.2.1,(x1.1.2.2.2.1,())))),(x1.2.1,())))) fun j1=>brn (I.ltb x0.1.2.2.2.1 (I.ofNat .i64 (@a0K (I .i64) x0.1.1))) (j1 ((x0.1.1,(x0.1.2.1,(x0.1.2.2.1,(x0.1.2.2.2.1,())))),(x0.2.1,()))) (brn (I.ltb x0.1.2.2.2.1 (I.ofNat .i64 (@a0K (I .i64) x0.1.2.1))) (j1 ((x0.1.1,(x0.1.2.1,(x0.1.2.2.1,(x0.1.2.2.2.1,())))),(x0.2.1,()))) (brn (I.ltb (I.of .i64 0) x0.1.2.2.1) (j1 ((x0.1.1,(x0.1.2.1,(x0.1.2.2.1,(x0.1.2.2.2.1,())))),(x0.2.1,()))) (.done (some ((x0.2.1,()),())))))) K ((a,(b,(I.of .i64 0,(I.of .i64 0,())))),([],()))
def a0C (K:Nat) (x:(⟨[.pl (.arr 4 (.int .u64))],[]⟩:Tm).D):Option (⟨[.pl (.sl (.int .i64))],[]⟩:Tm).D :=
 let a:(I .u64)×(I .u64)×(I .u64)×(I .u64)×Unit:=x.1.1
 iter none (fun x0=>brn (I.ltb x0.1.1 (I.of .i64 16)) (brn (inB (I.quo x0.1.1 (I.of .i64 4)) 4) (brn (I.nn (I.conv (k:=.i64) .u64 (I.mul (I.of .i64 16) (I.rem x0.1.1 (I.of .i64 4))))) (brn (inB x0.1.1 (@a0K (I .i64) x0.2.2.1)) (.again (((I.add x0.1.1 (I.of .i64 1)),()),(x0.2.1,((@b9T (I .i64) x0.2.2.1 (I.nat x0.1.1) (I.conv (k:=.u64) .i64 (I.and (I.shr (@Arr.sel (I .u64) (I.of .u64 0) 4 x0.2.1 (I.nat (I.quo x0.1.1 (I.of .i64 4)))) (I.conv (k:=.i64) .u64 (I.mul (I.of .i64 16) (I.rem x0.1.1 (I.of .i64 4))))) (I.of .u64 65535)))),())))) (.done none)) (.done none)) (.done none)) (.done (optF none (a6Q K ((x0.2.2.1,()),())) fun y1=>some ((y1.1.1,()),())))) K ((I.of .i64 0,()),(a,((@g5V (I .i64) 16 (I.of .i64 0)),())))
def a0H (K:Nat) (x:(⟨[.pl (.int .u64)],[]⟩:Tm).D):Option (⟨[.pl (.sl (.int .i64))],[]⟩:Tm).D :=
 let a:I .u64:=x.1.1
 optF none (a0C K (((a,(I.of .u64 0,(I.of .u64 0,(I.of .u64 0,())))),()),())) fun y0=>some ((y0.1.1,()),())
def a2F (K:Nat) (x:(⟨[.pl (.sl (.int .i64))],[]⟩:Tm).D):Option (⟨[.pl .bool],[]⟩:Tm).D :=
 let a:List (I .i64):=x.1.1
 some (((I.leb (I.ofNat .i64 (@a0K (I .i64) a)) (I.of .i64 16)),()),())
def a0P (K:Nat) (x:(⟨[.pl (.sl (.int .i64))],[]⟩:Tm).D):Option (⟨[.pl (.arr 4 (.int .u64))],[]⟩:Tm).D :=
 let a:List (I .i64):=x.1.1
 iter none (fun x0=>jn (fun (x1:(((List (I .i64))×((I .i64)×((I .i64)×(Bool×Unit))))×(((I .u64)×((I .u64)×((I .u64)×((I .u64)×Unit))))×(((I .u64)×((I .u64)×((I .u64)×((I .u64)×Unit))))×Unit))))=>brn (inB (I.quo x1.1.2.1 (I.of .i64 4)) 4) (brn (inB x1.1.2.1 (@a0K (I .i64) x1.1.1)) (brn (I.nn (I.conv (k:=.i64) .u64 (I.mul (I.of .i64 16) (I.rem x1.1.2.1 (I.of .i64 4))))) (brn (inB (I.quo x1.1.2.1 (I.of .i64 4)) 4) (.again ((x1.1.1,((I.add x1.1.2.1 (I.of .i64 1)),())),(x1.2.1,((@Arr.upd (I .u64) 4 x1.2.2.1 (I.nat (I.quo x1.1.2.1 (I.of .i64 4))) (I.add (@Arr.sel (I .u64) (I.of .u64 0) 4 x1.2.2.1 (I.nat (I.quo x1.1.2.1 (I.of .i64 4)))) (I.shl (I.conv (k:=.i64) .u64 (@rdL (I .i64) (I.of .i64 0) x1.1.1 (I.nat x1.1.2.1))) (I.conv (k:=.i64) .u64 (I.mul (I.of .i64 16) (I.rem x1.1.2.1 (I.of .i64 4))))))),())))) (.done none)) (.done none)) (.done none)) (.done none)) fun j1=>brn (I.ltb x0.1.2.1 (I.ofNat .i64 (@a0K (I .i64) x0.1.1))) (brn (I.ltb x0.1.2.1 (I.of .i64 16)) (j1 ((x0.1.1,(x0.1.2.1,(x0.1.2.1,((I.ltb x0.1.2.1 (I.of .i64 16)),())))),(x0.2.1,(x0.2.2.1,())))) (.done (some ((x0.2.2.1,()),())))) (.done (some ((x0.2.2.1,()),())))) K ((a,(I.of .i64 0,())),((I.of .u64 0,(I.of .u64 0,(I.of .u64 0,(I.of .u64 0,())))),((I.of .u64 0,(I.of .u64 0,(I.of .u64 0,(I.of .u64 0,())))),())))
def a2A (K:Nat) (x:(⟨[.pl (.sl (.int .i64)),.pl (.sl (.int .i64))],[]⟩:Tm).D):Option (⟨[.pl (.sl (.int .i64))],[]⟩:Tm).D :=
 let a:List (I .i64):=x.1.1
 let b:List (I .i64):=x.1.2.1
 brn (inB' (I.add (I.ofNat .i64 (@a0K (I .i64) a)) (I.ofNat .i64 (@a0K (I .i64) b))) (I.nat (I.add (I.ofNat .i64 (@a0K (I .i64) a)) (I.ofNat .i64 (@a0K (I .i64) b))))) (brn (inB' (I.add (I.ofNat .i64 (@a0K (I .i64) a)) (I.ofNat .i64 (@a0K (I .i64) b))) 1073741824) (iter none (fun x0=>brn (I.ltb x0.1.2.2.1 (I.ofNat .i64 (@a0K (I .i64) x0.1.1))) (iter (.done none) (fun x1=>brn (I.ltb x1.1.2.2.2.2.1 (I.ofNat .i64 (@a0K (I .i64) x1.1.2.1))) (brn (inB (I.add x1.1.2.2.1 x1.1.2.2.2.2.1) (@a0K (I .i64) x1.2.1)) (brn (inB x1.1.2.2.1 (@a0K (I .i64) x1.1.1)) (brn (inB x1.1.2.2.2.2.1 (@a0K (I .i64) x1.1.2.1)) (brn (inB (I.add x1.1.2.2.1 x1.1.2.2.2.2.1) (@a0K (I .i64) x1.2.1)) (.again ((x1.1.1,(x1.1.2.1,(x1.1.2.2.1,((I.shr (I.add (I.add x1.1.2.2.2.1 (@rdL (I .i64) (I.of .i64 0) x1.2.1 (I.nat (I.add x1.1.2.2.1 x1.1.2.2.2.2.1)))) (I.mul (@rdL (I .i64) (I.of .i64 0) x1.1.1 (I.nat x1.1.2.2.1)) (@rdL (I .i64) (I.of .i64 0) x1.1.2.1 (I.nat x1.1.2.2.2.2.1)))) (I.of .u64 16)),((I.add x1.1.2.2.2.2.1 (I.of .i64 1)),()))))),((@b9T (I .i64) x1.2.1 (I.nat (I.add x1.1.2.2.1 x1.1.2.2.2.2.1)) (I.and (I.add (I.add x1.1.2.2.2.1 (@rdL (I .i64) (I.of .i64 0) x1.2.1 (I.nat (I.add x1.1.2.2.1 x1.1.2.2.2.2.1)))) (I.mul (@rdL (I .i64) (I.of .i64 0) x1.1.1 (I.nat x1.1.2.2.1)) (@rdL (I .i64) (I.of .i64 0) x1.1.2.1 (I.nat x1.1.2.2.2.2.1)))) (I.of .i64 65535))),()))) (.done (.done none))) (.done (.done none))) (.done (.done none))) (.done (.done none))) (.done (brn (inB (I.add x1.1.2.2.1 (I.ofNat .i64 (@a0K (I .i64) x1.1.2.1))) (@a0K (I .i64) x1.2.1)) (.again ((x1.1.1,(x1.1.2.1,((I.add x1.1.2.2.1 (I.of .i64 1)),()))),((@b9T (I .i64) x1.2.1 (I.nat (I.add x1.1.2.2.1 (I.ofNat .i64 (@a0K (I .i64) x1.1.2.1)))) x1.1.2.2.2.1),()))) (.done none)))) K ((x0.1.1,(x0.1.2.1,(x0.1.2.2.1,(I.of .i64 0,(I.of .i64 0,()))))),(x0.2.1,()))) (.done (optF none (a6Q K ((x0.2.1,()),())) fun y1=>some ((y1.1.1,()),())))) K ((a,(b,(I.of .i64 0,()))),((@g5V (I .i64) (I.nat (I.add (I.ofNat .i64 (@a0K (I .i64) a)) (I.ofNat .i64 (@a0K (I .i64) b)))) (I.of .i64 0)),()))) none) none
def a2O (K:Nat) (x:(⟨[.pl (.sl (.int .i64))],[]⟩:Tm).D):Option (⟨[.pl (.arr 4 (.int .u64)),.pl (.int .i64)],[]⟩:Tm).D :=
 let a:List (I .i64):=x.1.1
 optF none (a2F K ((a,()),())) fun y0=>brn (a6O y0.1.1) (some (((I.of .u64 0,(I.of .u64 0,(I.of .u64 0,(I.of .u64 0,())))),(I.of .i64 4,())),())) (optF none (a0P K ((a,()),())) fun y1=>some ((y1.1.1,(I.of .i64 0,())),()))
def a2M (K:Nat) (x:(⟨[.pl (.arr 4 (.int .u64))],[]⟩:Tm).D):Option (⟨[.pl .bool],[]⟩:Tm).D :=
 let a:(I .u64)×(I .u64)×(I .u64)×(I .u64)×Unit:=x.1.1
 some (((Ty.eqb (.arr 4 (.int .u64)) a (I.of .u64 0,(I.of .u64 0,(I.of .u64 0,(I.of .u64 0,()))))),()),())
end
end Sym

/- The given functions as plain functions, as the printer told them. -/
namespace Sym
open Go
noncomputable def c6A (K:Nat) (x:(⟨[.pl (.arr 4 (.int .u64)),.pl (.int .u64)],[]⟩:Tm).D):Option (⟨[.pl (.arr 4 (.int .u64)),.pl (.int .u64)],[]⟩:Tm).D :=
 let a:(I .u64)×(I .u64)×(I .u64)×(I .u64)×Unit:=x.1.1
 let b:I .u64:=x.1.2.1
 iter none (fun x0=>brn (I.ltb (I.of .i64 0) x0.1.2.2.1) (brn (inB x0.1.2.2.1 4) (brn (inB (I.sub x0.1.2.2.1 (I.of .i64 1)) 4) (brn (inB x0.1.2.2.1 4) (.again ((x0.1.1,(x0.1.2.1,((I.sub x0.1.2.2.1 (I.of .i64 1)),()))),((@Arr.upd (I .u64) 4 x0.2.1 (I.nat x0.1.2.2.1) (I.or (I.shl (@Arr.sel (I .u64) (I.of .u64 0) 4 x0.2.1 (I.nat x0.1.2.2.1)) (I.of .u64 1)) (I.shr (@Arr.sel (I .u64) (I.of .u64 0) 4 x0.2.1 (I.nat (I.sub x0.1.2.2.1 (I.of .i64 1)))) (I.of .u64 63)))),(x0.2.2.1,())))) (.done none)) (.done none)) (.done none)) (.done (some ((((I.or (I.shl x0.2.1.1 (I.of .u64 1)) x0.1.1),(x0.2.1.2.1,(x0.2.1.2.2.1,(x0.2.1.2.2.2.1,())))),(x0.1.2.1,())),())))) K ((b,((I.shr a.2.2.2.1 (I.of .u64 63)),(I.of .i64 3,()))),(a,((I.of .u64 0,(I.of .u64 0,(I.of .u64 0,(I.of .u64 0,())))),())))
noncomputable def c3H (K:Nat) (x:(⟨[.pl (.arr 4 (.int .u64)),.pl (.arr 4 (.int .u64))],[]⟩:Tm).D):Option (⟨[.pl (.arr 4 (.int .u64))],[]⟩:Tm).D :=
 let a:(I .u64)×(I .u64)×(I .u64)×(I .u64)×Unit:=x.1.1
 let b:(I .u64)×(I .u64)×(I .u64)×(I .u64)×Unit:=x.1.2.1
 iter none (fun x0=>brn (I.ltb x0.1.2.1 (I.of .i64 4)) (brn (inB x0.1.2.1 4) (brn (inB x0.1.2.1 4) (optF (.done none) (f5G (((@Arr.sel (I .u64) (I.of .u64 0) 4 x0.2.1 (I.nat x0.1.2.1)),((@Arr.sel (I .u64) (I.of .u64 0) 4 x0.2.2.1 (I.nat x0.1.2.1)),(x0.1.1,()))),())) fun y1=>brn (inB x0.1.2.1 4) (.again ((y1.1.2.1,((I.add x0.1.2.1 (I.of .i64 1)),())),((@Arr.upd (I .u64) 4 x0.2.1 (I.nat x0.1.2.1) y1.1.1),(x0.2.2.1,(x0.2.2.2.1,()))))) (.done none)) (.done none)) (.done none)) (.done (some ((x0.2.1,()),())))) K ((I.of .u64 0,(I.of .i64 0,())),(a,(b,((I.of .u64 0,(I.of .u64 0,(I.of .u64 0,(I.of .u64 0,())))),()))))
noncomputable def d1H (K:Nat) (x:(⟨[.pl (.arr 4 (.int .u64)),.pl (.arr 4 (.int .u64)),.pl (.arr 4 (.int .u64))],[]⟩:Tm).D):Option (⟨[.pl (.arr 4 (.int .u64)),.pl (.arr 4 (.int .u64)),.pl (.int .i64)],[]⟩:Tm).D :=
 let a:(I .u64)×(I .u64)×(I .u64)×(I .u64)×Unit:=x.1.1
 let b:(I .u64)×(I .u64)×(I .u64)×(I .u64)×Unit:=x.1.2.1
 let c:(I .u64)×(I .u64)×(I .u64)×(I .u64)×Unit:=x.1.2.2.1
 brn (Ty.eqb (.arr 4 (.int .u64)) c (I.of .u64 0,(I.of .u64 0,(I.of .u64 0,(I.of .u64 0,()))))) (some (((I.of .u64 0,(I.of .u64 0,(I.of .u64 0,(I.of .u64 0,())))),((I.of .u64 0,(I.of .u64 0,(I.of .u64 0,(I.of .u64 0,())))),(I.of .i64 5,()))),())) (optF none (c1W ((b,(c,())),())) fun y0=>brn (I.leb (I.of .i64 0) y0.1.1) (some (((I.of .u64 0,(I.of .u64 0,(I.of .u64 0,(I.of .u64 0,())))),((I.of .u64 0,(I.of .u64 0,(I.of .u64 0,(I.of .u64 0,())))),(I.of .i64 4,()))),())) (iter none (fun x1=>brn (I.leb (I.of .i64 0) x1.1.1) (brn (inB (I.quo x1.1.1 (I.of .i64 64)) 4) (brn (I.nn (I.rem x1.1.1 (I.of .i64 64))) (optF (.done none) (c6A K ((x1.2.2.2.2.1,((I.and (I.shr (@Arr.sel (I .u64) (I.of .u64 0) 4 x1.2.1 (I.nat (I.quo x1.1.1 (I.of .i64 64)))) (I.rem x1.1.1 (I.of .i64 64))) (I.of .u64 1)),())),())) fun y2=>brn (I.eqb y2.1.2.1 (I.of .u64 1)) (optF (.done none) (c3H K ((y2.1.1,(x1.2.2.1,())),())) fun y3=>brn (inB (I.quo x1.1.1 (I.of .i64 64)) 4) (brn (I.nn (I.rem x1.1.1 (I.of .i64 64))) (brn (inB (I.quo x1.1.1 (I.of .i64 64)) 4) (.again (((I.sub x1.1.1 (I.of .i64 1)),()),(x1.2.1,(x1.2.2.1,((@Arr.upd (I .u64) 4 x1.2.2.2.1 (I.nat (I.quo x1.1.1 (I.of .i64 64))) (I.or (@Arr.sel (I .u64) (I.of .u64 0) 4 x1.2.2.2.1 (I.nat (I.quo x1.1.1 (I.of .i64 64)))) (I.shl (I.of .u64 1) (I.rem x1.1.1 (I.of .i64 64))))),(y3.1.1,())))))) (.done none)) (.done none)) (.done none)) (optF (.done none) (c1W ((y2.1.1,(x1.2.2.1,())),())) fun y3=>brn (I.leb (I.of .i64 0) y3.1.1) (optF (.done none) (c3H K ((y2.1.1,(x1.2.2.1,())),())) fun y4=>brn (inB (I.quo x1.1.1 (I.of .i64 64)) 4) (brn (I.nn (I.rem x1.1.1 (I.of .i64 64))) (brn (inB (I.quo x1.1.1 (I.of .i64 64)) 4) (.again (((I.sub x1.1.1 (I.of .i64 1)),()),(x1.2.1,(x1.2.2.1,((@Arr.upd (I .u64) 4 x1.2.2.2.1 (I.nat (I.quo x1.1.1 (I.of .i64 64))) (I.or (@Arr.sel (I .u64) (I.of .u64 0) 4 x1.2.2.2.1 (I.nat (I.quo x1.1.1 (I.of .i64 64)))) (I.shl (I.of .u64 1) (I.rem x1.1.1 (I.of .i64 64))))),(y4.1.1,())))))) (.done none)) (.done none)) (.done none)) (.again (((I.sub x1.1.1 (I.of .i64 1)),()),(x1.2.1,(x1.2.2.1,(x1.2.2.2.1,(y2.1.1,())))))))) (.done none)) (.done none)) (.done (some ((x1.2.2.2.1,(x1.2.2.2.2.1,(I.of .i64 0,()))),())))) K ((I.of .i64 255,()),(a,(c,((I.of .u64 0,(I.of .u64 0,(I.of .u64 0,(I.of .u64 0,())))),(b,())))))))
noncomputable def b6J (K:Nat) (x:(⟨[.pl (.int .u64),.pl (.int .u64)],[]⟩:Tm).D):Option (⟨[.pl (.int .u64),.pl (.int .u64)],[]⟩:Tm).D :=
 let a:I .u64:=x.1.1
 let b:I .u64:=x.1.2.1
 some (((I.add (I.add (I.mul (I.shr a (I.of .u64 32)) (I.shr b (I.of .u64 32))) (I.shr (I.add (I.mul (I.shr a (I.of .u64 32)) (I.and b (I.of .u64 4294967295))) (I.shr (I.mul (I.and a (I.of .u64 4294967295)) (I.and b (I.of .u64 4294967295))) (I.of .u64 32))) (I.of .u64 32))) (I.shr (I.add (I.and (I.add (I.mul (I.shr a (I.of .u64 32)) (I.and b (I.of .u64 4294967295))) (I.shr (I.mul (I.and a (I.of .u64 4294967295)) (I.and b (I.of .u64 4294967295))) (I.of .u64 32))) (I.of .u64 4294967295)) (I.mul (I.and a (I.of .u64 4294967295)) (I.shr b (I.of .u64 32)))) (I.of .u64 32))),((I.mul a b),())),())
noncomputable def a1P (K:Nat) (x:(⟨[.pl (.int .u64)],[]⟩:Tm).D):Option (⟨[.pl (.arr 4 (.int .u64))],[]⟩:Tm).D :=
 let a:I .u64:=x.1.1
 some (((a,(I.of .u64 0,(I.of .u64 0,(I.of .u64 0,())))),()),())
end Sym

/- The given functions as plain functions, as the printer told them. -/
namespace Sym
open Go
noncomputable def a4O (K:Nat) (x:(⟨[.pl (.int .i64),.pl (.int .i64)],[]⟩:Tm).D):Option (⟨[.pl (.int .i64)],[]⟩:Tm).D :=
 let a:I .i64:=x.1.1
 let b:I .i64:=x.1.2.1
 brn (I.nz (I.conv (k:=.i64) .u64 b)) (some (((I.conv (k:=.u64) .i64 (I.rem (I.conv (k:=.i64) .u64 a) (I.conv (k:=.i64) .u64 b))),()),())) none
noncomputable def a4P (K:Nat) (x:(⟨[.pl (.sl (.int .i64))],[]⟩:Tm).D):Option (⟨[.pl (.sl (.int .u8))],[]⟩:Tm).D :=
 let a:List (I .i64):=x.1.1
 iter none (fun x0=>brn (I.ltb x0.1.2.1 (I.ofNat .i64 (@a0K (I .i64) x0.1.1))) (brn (inB x0.1.2.1 (@a0K (I .i64) x0.1.1)) (optF (.done none) (a4O K (((@rdL (I .i64) (I.of .i64 0) x0.1.1 (I.nat x0.1.2.1)),(I.of .i64 1048576,())),())) fun y1=>jn (fun (x2:(((List (I .i64))×((I .i64)×((I .i64)×((I .i64)×((I .i64)×(Bool×Unit))))))×((List (I .u8))×Unit)))=>brn x2.1.2.2.2.2.2.1 (iter (.done none) (fun x3=>brn (I.ltb x3.1.2.2.2.2.1 x3.1.2.2.2.1) (brn (a1D (@a0K (I .u8) (@a2C (I .u8) x3.2.1 ((I.conv (k:=.i64) .u8 (I.add (I.of .i64 97) (I.rem (I.quo x3.1.2.2.1 (I.of .i64 256)) (I.of .i64 3))))::[])))) (.again ((x3.1.1,(x3.1.2.1,(x3.1.2.2.1,(x3.1.2.2.2.1,((I.add x3.1.2.2.2.2.1 (I.of .i64 1)),()))))),((@a2C (I .u8) x3.2.1 ((I.conv (k:=.i64) .u8 (I.add (I.of .i64 97) (I.rem (I.quo x3.1.2.2.1 (I.of .i64 256)) (I.of .i64 3))))::[])),()))) (.done (.done none))) (.done (.again ((x3.1.1,((I.add x3.1.2.1 (I.of .i64 1)),())),(x3.2.1,()))))) K ((x2.1.1,(x2.1.2.1,(x2.1.2.2.1,(x2.1.2.2.2.1,(I.of .i64 0,()))))),(x2.2.1,()))) (jn (fun (x3:(((List (I .i64))×((I .i64)×((I .i64)×((I .i64)×(Bool×Unit)))))×((List (I .u8))×Unit)))=>brn x3.1.2.2.2.2.1 (jn (fun (x4:(((List (I .i64))×((I .i64)×((I .i64)×((I .i64)×Unit))))×((List (I .u8))×Unit)))=>iter (.done none) (fun x5=>jn (fun (x6:(((List (I .i64))×((I .i64)×((I .i64)×((I .i64)×((I .i64)×((I .i64)×((I .i64)×((I .i64)×((I .i64)×(Bool×Unit))))))))))×((List (I .u8))×Unit)))=>brn (inB (I.add x6.1.2.2.2.1 x6.1.2.2.2.2.1) (@a0K (I .u8) x6.2.1)) (brn (a1D (@a0K (I .u8) (@a2C (I .u8) x6.2.1 ((@rdL (I .u8) (I.of .u8 0) x6.2.1 (I.nat (I.add x6.1.2.2.2.1 x6.1.2.2.2.2.1)))::[])))) (.again ((x6.1.1,(x6.1.2.1,(x6.1.2.2.1,(x6.1.2.2.2.1,((I.add x6.1.2.2.2.2.1 (I.of .i64 1)),()))))),((@a2C (I .u8) x6.2.1 ((@rdL (I .u8) (I.of .u8 0) x6.2.1 (I.nat (I.add x6.1.2.2.2.1 x6.1.2.2.2.2.1)))::[])),()))) (.done (.done none))) (.done (.done none))) fun j6=>brn (I.ltb x5.1.2.2.2.2.1 x5.1.2.2.1) (brn (I.ltb (I.add x5.1.2.2.2.1 x5.1.2.2.2.2.1) (I.ofNat .i64 (@a0K (I .u8) x5.2.1))) (j6 ((x5.1.1,(x5.1.2.1,(x5.1.2.2.1,(x5.1.2.2.2.1,(x5.1.2.2.2.2.1,(x5.1.2.2.2.1,(x5.1.2.2.2.2.1,((I.add x5.1.2.2.2.1 x5.1.2.2.2.2.1),((I.ofNat .i64 (@a0K (I .u8) x5.2.1)),((I.ltb (I.add x5.1.2.2.2.1 x5.1.2.2.2.2.1) (I.ofNat .i64 (@a0K (I .u8) x5.2.1))),())))))))))),(x5.2.1,()))) (.done (.again ((x5.1.1,((I.add x5.1.2.1 (I.of .i64 1)),())),(x5.2.1,()))))) (.done (.again ((x5.1.1,((I.add x5.1.2.1 (I.of .i64 1)),())),(x5.2.1,()))))) K ((x4.1.1,(x4.1.2.1,(x4.1.2.2.1,(x4.1.2.2.2.1,(I.of .i64 0,()))))),(x4.2.1,()))) fun j4=>brn (I.ltb (I.of .i64 0) (I.ofNat .i64 (@a0K (I .u8) x3.2.1))) (brn (I.nz (I.ofNat .i64 (@a0K (I .u8) x3.2.1))) (j4 ((x3.1.1,(x3.1.2.1,(x3.1.2.2.2.1,((I.rem (I.quo x3.1.2.2.1 (I.of .i64 64)) (I.ofNat .i64 (@a0K (I .u8) x3.2.1))),())))),(x3.2.1,()))) (.done none)) (j4 ((x3.1.1,(x3.1.2.1,(x3.1.2.2.2.1,(I.of .i64 0,())))),(x3.2.1,())))) (iter (.done none) (fun x4=>brn (I.ltb x4.1.2.2.2.2.1 x4.1.2.2.2.1) (brn (I.nn (I.conv (k:=.i64) .u64 (I.rem x4.1.2.2.2.2.1 (I.of .i64 12)))) (brn (a1D (@a0K (I .u8) (@a2C (I .u8) x4.2.1 ((I.conv (k:=.i64) .u8 (I.add (I.shr x4.1.2.2.1 (I.conv (k:=.i64) .u64 (I.rem x4.1.2.2.2.2.1 (I.of .i64 12)))) (I.mul x4.1.2.2.2.2.1 x4.1.2.2.1)))::[])))) (.again ((x4.1.1,(x4.1.2.1,(x4.1.2.2.1,(x4.1.2.2.2.1,((I.add x4.1.2.2.2.2.1 (I.of .i64 1)),()))))),((@a2C (I .u8) x4.2.1 ((I.conv (k:=.i64) .u8 (I.add (I.shr x4.1.2.2.1 (I.conv (k:=.i64) .u64 (I.rem x4.1.2.2.2.2.1 (I.of .i64 12)))) (I.mul x4.1.2.2.2.2.1 x4.1.2.2.1)))::[])),()))) (.done (.done none))) (.done (.done none))) (.done (.again ((x4.1.1,((I.add x4.1.2.1 (I.of .i64 1)),())),(x4.2.1,()))))) K ((x3.1.1,(x3.1.2.1,(x3.1.2.2.1,(x3.1.2.2.2.1,(I.of .i64 0,()))))),(x3.2.1,())))) fun j3=>brn (I.eqb x2.1.2.2.2.2.1 (I.of .i64 2)) (j3 ((x2.1.1,(x2.1.2.1,(x2.1.2.2.1,(x2.1.2.2.2.1,((I.eqb x2.1.2.2.2.2.1 (I.of .i64 2)),()))))),(x2.2.1,()))) (brn (I.eqb x2.1.2.2.2.2.1 (I.of .i64 3)) (j3 ((x2.1.1,(x2.1.2.1,(x2.1.2.2.1,(x2.1.2.2.2.1,((I.eqb x2.1.2.2.2.2.1 (I.of .i64 3)),()))))),(x2.2.1,()))) (j3 ((x2.1.1,(x2.1.2.1,(x2.1.2.2.1,(x2.1.2.2.2.1,((I.eqb x2.1.2.2.2.2.1 (I.of .i64 4)),()))))),(x2.2.1,())))))) fun j2=>brn (I.eqb (I.rem y1.1.1 (I.of .i64 8)) (I.of .i64 0)) (j2 ((x0.1.1,(x0.1.2.1,(y1.1.1,((I.add (I.of .i64 1) (I.rem (I.quo y1.1.1 (I.of .i64 8)) (I.of .i64 24))),((I.rem y1.1.1 (I.of .i64 8)),((I.eqb (I.rem y1.1.1 (I.of .i64 8)) (I.of .i64 0)),())))))),(x0.2.1,()))) (j2 ((x0.1.1,(x0.1.2.1,(y1.1.1,((I.add (I.of .i64 1) (I.rem (I.quo y1.1.1 (I.of .i64 8)) (I.of .i64 24))),((I.rem y1.1.1 (I.of .i64 8)),((I.eqb (I.rem y1.1.1 (I.of .i64 8)) (I.of .i64 1)),())))))),(x0.2.1,())))) (.done none)) (.done (some ((x0.2.1,()),())))) K ((a,(I.of .i64 0,())),([],()))
noncomputable def a4N (K:Nat) (x:(⟨[.pl (.sl (.int .i64)),.pl (.sl (.int .i64))],[]⟩:Tm).D):Option (⟨[.pl (.sl (.int .i64))],[]⟩:Tm).D :=
 let a:List (I .i64):=x.1.1
 let b:List (I .i64):=x.1.2.1
 optF none (a2X K ((a,(b,())),())) fun y0=>brn (I.ltb (I.of .i64 0) y0.1.1) (some ((b,()),())) (some ((a,()),()))
noncomputable def a9N (K:Nat) (x:(⟨[.pl tY6,.pl (.arr 4 (.int .u64))],[]⟩:Tm).D):Option (⟨[.pl (.sl (.int .i64))],[]⟩:Tm).D :=
 let a:(I .u64)×(I .u64)×(I .u64)×((I .u64)×(I .u64)×(I .u64)×(I .u64)×Unit)×(I .u64)×((I .u64)×(I .u64)×(I .u64)×(I .u64)×Unit)×((I .u64)×(I .u64)×(I .u64)×(I .u64)×Unit)×(I .u64)×(List (I .u8))×Unit:=x.1.1
 let b:(I .u64)×(I .u64)×(I .u64)×(I .u64)×Unit:=x.1.2.1
 optF none (a0C K ((a.2.2.2.2.2.2.1,()),())) fun y0=>optF none (a0C K ((a.2.2.2.2.2.1,()),())) fun y1=>optF none (a0C K ((b,()),())) fun y2=>optF none (a2Q K ((y1.1.1,(y2.1.1,())),())) fun y3=>optF none (a4N K ((y0.1.1,(y3.1.1,())),())) fun y4=>some ((y4.1.1,()),())
noncomputable def a9W (K:Nat) (x:(⟨[.pl tY6,.pl (.arr 4 (.int .u64))],[]⟩:Tm).D):Option (⟨[.pl (.arr 4 (.int .u64)),.pl (.int .i64)],[]⟩:Tm).D :=
 let a:(I .u64)×(I .u64)×(I .u64)×((I .u64)×(I .u64)×(I .u64)×(I .u64)×Unit)×(I .u64)×((I .u64)×(I .u64)×(I .u64)×(I .u64)×Unit)×((I .u64)×(I .u64)×(I .u64)×(I .u64)×Unit)×(I .u64)×(List (I .u8))×Unit:=x.1.1
 let b:(I .u64)×(I .u64)×(I .u64)×(I .u64)×Unit:=x.1.2.1
 optF none (a0C K ((a.2.2.2.2.2.1,()),())) fun y0=>optF none (a0C K ((b,()),())) fun y1=>optF none (a2X K ((y0.1.1,(y1.1.1,())),())) fun y2=>brn (I.ltb y2.1.1 (I.of .i64 0)) (some (((I.of .u64 0,(I.of .u64 0,(I.of .u64 0,(I.of .u64 0,())))),(I.of .i64 12,())),())) (optF none (a0C K ((b,()),())) fun y3=>optF none (a9N K ((a,(b,())),())) fun y4=>optF none (a1M K ((y3.1.1,(y4.1.1,())),())) fun y5=>optF none (a2O K ((y5.1.1,()),())) fun y6=>some ((y6.1.1,(y6.1.2.1,())),()))
noncomputable def b1B (K:Nat) (x:(⟨[.pl tY6,.pl (.arr 4 (.int .u64)),.pl (.arr 4 (.int .u64))],[]⟩:Tm).D):Option (⟨[.pl .bool],[]⟩:Tm).D :=
 let a:(I .u64)×(I .u64)×(I .u64)×((I .u64)×(I .u64)×(I .u64)×(I .u64)×Unit)×(I .u64)×((I .u64)×(I .u64)×(I .u64)×(I .u64)×Unit)×((I .u64)×(I .u64)×(I .u64)×(I .u64)×Unit)×(I .u64)×(List (I .u8))×Unit:=x.1.1
 let b:(I .u64)×(I .u64)×(I .u64)×(I .u64)×Unit:=x.1.2.1
 let c:(I .u64)×(I .u64)×(I .u64)×(I .u64)×Unit:=x.1.2.2.1
 optF none (a0H K ((a.2.2.2.2.1,()),())) fun y0=>optF none (a0C K ((b,()),())) fun y1=>optF none (a2A K ((y0.1.1,(y1.1.1,())),())) fun y2=>optF none (a0C K ((a.2.2.2.1,()),())) fun y3=>optF none (a1M K ((y2.1.1,(y3.1.1,())),())) fun y4=>optF none (a0C K ((c,()),())) fun y5=>optF none (a2X K ((y5.1.1,(y4.1.1,())),())) fun y6=>some (((I.leb (I.of .i64 0) y6.1.1),()),())
end Sym

/- The given functions as plain functions, as the printer told them. -/
namespace Sym
open Go
noncomputable def a5A (K:Nat) (x:(⟨[.pl tY3],[]⟩:Tm).D):Option (⟨[.pl .bool],[]⟩:Tm).D :=
 let a:(Bool)×((I .u64)×(I .u64)×(I .u64)×(I .u64)×Unit)×Unit:=x.1.1
 brn a.1 (optF none (a2M K ((a.2.1,()),())) fun y0=>some (((a6O y0.1.1),()),())) (some ((true,()),()))
noncomputable def a8Y (K:Nat) (x:(⟨[.pl tY4],[]⟩:Tm).D):Option (⟨[.pl tY3,.pl (.int .i64)],[]⟩:Tm).D :=
 let a:(Bool)×(List (I .i64))×Unit:=x.1.1
 optF none (a2O K ((a.2.1,()),())) fun y0=>brn (I.neb y0.1.2.1 (I.of .i64 0)) (some (((false,((I.of .u64 0,(I.of .u64 0,(I.of .u64 0,(I.of .u64 0,())))),())),(y0.1.2.1,())),())) (some (((a.1,(y0.1.1,())),(I.of .i64 0,())),()))
noncomputable def a2N (K:Nat) (x:(⟨[.pl .bool,.pl (.sl (.int .i64))],[]⟩:Tm).D):Option (⟨[.pl tY4],[]⟩:Tm).D :=
 let a:Bool:=x.1.1
 let b:List (I .i64):=x.1.2.1
 brn a (some ((((I.ltb (I.of .i64 0) (I.ofNat .i64 (@a0K (I .i64) b))),(b,())),()),())) (some (((false,(b,())),()),()))
noncomputable def a5E (K:Nat) (x:(⟨[.pl tY4,.pl (.sl (.int .i64))],[]⟩:Tm).D):Option (⟨[.pl tY4],[]⟩:Tm).D :=
 let a:(Bool)×(List (I .i64))×Unit:=x.1.1
 let b:List (I .i64):=x.1.2.1
 optF none (a3R K ((a.2.1,(b,())),())) fun y0=>jn (fun (x1:(((List (I .i64))×(Bool×Unit))×((Bool×((List (I .i64))×Unit))×((Bool×((List (I .i64))×Unit))×Unit))))=>brn x1.1.2.1 (optF none (a0H K ((I.of .u64 1,()),())) fun y2=>optF none (a1M K ((x1.1.1,(y2.1.1,())),())) fun y3=>optF none (a2N K ((x1.2.1.1,(y3.1.1,())),())) fun y4=>some ((y4.1.1,()),())) (optF none (a2N K ((x1.2.1.1,(x1.1.1,())),())) fun y2=>some ((y2.1.1,()),()))) fun j1=>brn a.1 (j1 ((y0.1.1,((I.ltb (I.of .i64 0) (I.ofNat .i64 (@a0K (I .i64) y0.1.2.1))),())),(a,((false,([],())),())))) (j1 ((y0.1.1,(false,())),(a,((false,([],())),()))))
noncomputable def a3M (K:Nat) (x:(⟨[.pl tY3],[]⟩:Tm).D):Option (⟨[.pl tY4],[]⟩:Tm).D :=
 let a:(Bool)×((I .u64)×(I .u64)×(I .u64)×(I .u64)×Unit)×Unit:=x.1.1
 optF none (a0C K ((a.2.1,()),())) fun y0=>optF none (a2N K ((a.1,(y0.1.1,())),())) fun y1=>some ((y1.1.1,()),())
noncomputable def a7T (K:Nat) (x:(⟨[.pl tY4,.pl tY4],[]⟩:Tm).D):Option (⟨[.pl tY4],[]⟩:Tm).D :=
 let a:(Bool)×(List (I .i64))×Unit:=x.1.1
 let b:(Bool)×(List (I .i64))×Unit:=x.1.2.1
 brn (Ty.eqb .bool a.1 b.1) (optF none (a1M K ((a.2.1,(b.2.1,())),())) fun y0=>optF none (a2N K ((a.1,(y0.1.1,())),())) fun y1=>some ((y1.1.1,()),())) (optF none (a2X K ((a.2.1,(b.2.1,())),())) fun y0=>brn (I.leb (I.of .i64 0) y0.1.1) (optF none (a2Q K ((a.2.1,(b.2.1,())),())) fun y1=>optF none (a2N K ((a.1,(y1.1.1,())),())) fun y2=>some ((y2.1.1,()),())) (optF none (a2Q K ((b.2.1,(a.2.1,())),())) fun y1=>optF none (a2N K ((b.1,(y1.1.1,())),())) fun y2=>some ((y2.1.1,()),())))
noncomputable def a9F (K:Nat) (x:(⟨[.pl (.arr 4 (.int .u64)),.pl tY3],[]⟩:Tm).D):Option (⟨[.pl (.arr 4 (.int .u64)),.pl (.int .i64)],[]⟩:Tm).D :=
 let a:(I .u64)×(I .u64)×(I .u64)×(I .u64)×Unit:=x.1.1
 let b:(Bool)×((I .u64)×(I .u64)×(I .u64)×(I .u64)×Unit)×Unit:=x.1.2.1
 optF none (a5A K ((b,()),())) fun y0=>brn (a6O y0.1.1) (some (((I.of .u64 0,(I.of .u64 0,(I.of .u64 0,(I.of .u64 0,())))),(I.of .i64 2,())),())) (optF none (a0C K ((a,()),())) fun y1=>optF none (a2N K ((false,(y1.1.1,())),())) fun y2=>optF none (a3M K ((b,()),())) fun y3=>optF none (a7T K ((y2.1.1,(y3.1.1,())),())) fun y4=>brn y4.1.1.1 (some (((I.of .u64 0,(I.of .u64 0,(I.of .u64 0,(I.of .u64 0,())))),(I.of .i64 0,())),())) (optF none (a2O K ((y4.1.1.2.1,()),())) fun y5=>some ((y5.1.1,(y5.1.2.1,())),())))
noncomputable def b5K (K:Nat) (x:(⟨[.pl (.arr 4 (.int .u64)),.pl (.arr 4 (.int .u64))],[]⟩:Tm).D):Option (⟨[.pl tY3],[]⟩:Tm).D :=
 let a:(I .u64)×(I .u64)×(I .u64)×(I .u64)×Unit:=x.1.1
 let b:(I .u64)×(I .u64)×(I .u64)×(I .u64)×Unit:=x.1.2.1
 optF none (a0C K ((a,()),())) fun y0=>optF none (a2N K ((false,(y0.1.1,())),())) fun y1=>optF none (a0C K ((b,()),())) fun y2=>optF none (a2N K ((true,(y2.1.1,())),())) fun y3=>optF none (a7T K ((y1.1.1,(y3.1.1,())),())) fun y4=>optF none (a8Y K ((y4.1.1,()),())) fun y5=>some ((y5.1.1,()),())
noncomputable def a6M (K:Nat) (x:(⟨[.pl tY4],[]⟩:Tm).D):Option (⟨[.pl tY4],[]⟩:Tm).D :=
 let a:(Bool)×(List (I .i64))×Unit:=x.1.1
 optF none (a2N K (((a6O a.1),(a.2.1,())),())) fun y0=>some ((y0.1.1,()),())
noncomputable def b3G (K:Nat) (x:(⟨[.pl tY4,.pl tY4],[]⟩:Tm).D):Option (⟨[.pl tY4],[]⟩:Tm).D :=
 let a:(Bool)×(List (I .i64))×Unit:=x.1.1
 let b:(Bool)×(List (I .i64))×Unit:=x.1.2.1
 optF none (a2A K ((a.2.1,(b.2.1,())),())) fun y0=>optF none (a2N K (((a6O (Ty.eqb .bool a.1 b.1)),(y0.1.1,())),())) fun y1=>some ((y1.1.1,()),())
end Sym

/- The given functions as plain functions, as the printer told them. -/
namespace Sym
open Go
noncomputable section
def c9H (K:Nat) (x:(⟨[],[]⟩:Tm).D):Option (⟨[.pl tY5],[]⟩:Tm).D :=
 optF none (a1P K ((I.of .u64 100000000,()),())) fun y0=>optF none (a1P K ((I.of .u64 60000000,()),())) fun y1=>optF none (a1P K ((I.of .u64 10,()),())) fun y2=>some (((I.of .u64 7000000,(I.of .u64 10,(I.of .u64 102,(y0.1.1,(I.of .u64 32000000,(y1.1.1,(I.of .u64 1000,(y2.1.1,(I.of .u64 160000000,(I.of .u64 10,(I.of .u64 16,(I.of .u64 65536,())))))))))))),()),())
def d8N (K:Nat) (x:(⟨[.pl tY5,.pl (.int .i64)],[]⟩:Tm).D):Option (⟨[.pl (.arr 4 (.int .u64)),.pl (.int .i64)],[]⟩:Tm).D :=
 let a:(I .u64)×(I .u64)×(I .u64)×((I .u64)×(I .u64)×(I .u64)×(I .u64)×Unit)×(I .u64)×((I .u64)×(I .u64)×(I .u64)×(I .u64)×Unit)×(I .u64)×((I .u64)×(I .u64)×(I .u64)×(I .u64)×Unit)×(I .u64)×(I .u64)×(I .u64)×(I .u64)×Unit:=x.1.1
 let b:I .i64:=x.1.2.1
 brn (I.eqb b (I.of .i64 4)) (some ((a.2.2.2.1,(I.of .i64 0,())),())) (brn (I.eqb b (I.of .i64 6)) (some ((a.2.2.2.2.2.1,(I.of .i64 0,())),())) (brn (I.eqb b (I.of .i64 8)) (some ((a.2.2.2.2.2.2.2.1,(I.of .i64 0,())),())) (brn (I.eqb b (I.of .i64 1)) (optF none (a1P K ((a.1,()),())) fun y0=>some ((y0.1.1,(I.of .i64 0,())),())) (brn (I.eqb b (I.of .i64 2)) (optF none (a1P K ((a.2.1,()),())) fun y0=>some ((y0.1.1,(I.of .i64 0,())),())) (brn (I.eqb b (I.of .i64 3)) (optF none (a1P K ((a.2.2.1,()),())) fun y0=>some ((y0.1.1,(I.of .i64 0,())),())) (brn (I.eqb b (I.of .i64 5)) (optF none (a1P K ((a.2.2.2.2.1,()),())) fun y0=>some ((y0.1.1,(I.of .i64 0,())),())) (brn (I.eqb b (I.of .i64 7)) (optF none (a1P K ((a.2.2.2.2.2.2.1,()),())) fun y0=>some ((y0.1.1,(I.of .i64 0,())),())) (brn (I.eqb b (I.of .i64 9)) (optF none (a1P K ((a.2.2.2.2.2.2.2.2.1,()),())) fun y0=>some ((y0.1.1,(I.of .i64 0,())),())) (brn (I.eqb b (I.of .i64 10)) (optF none (a1P K ((a.2.2.2.2.2.2.2.2.2.1,()),())) fun y0=>some ((y0.1.1,(I.of .i64 0,())),())) (brn (I.eqb b (I.of .i64 11)) (optF none (a1P K ((a.2.2.2.2.2.2.2.2.2.2.1,()),())) fun y0=>some ((y0.1.1,(I.of .i64 0,())),())) (brn (I.eqb b (I.of .i64 12)) (optF none (a1P K ((a.2.2.2.2.2.2.2.2.2.2.2.1,()),())) fun y0=>some ((y0.1.1,(I.of .i64 0,())),())) (some (((I.of .u64 0,(I.of .u64 0,(I.of .u64 0,(I.of .u64 0,())))),(I.of .i64 17,())),())))))))))))))
def d0M (K:Nat) (x:(⟨[.pl tY5,.pl (.int .i64)],[]⟩:Tm).D):Option (⟨[.pl (.int .u64),.pl (.int .u64)],[]⟩:Tm).D :=
 let a:(I .u64)×(I .u64)×(I .u64)×((I .u64)×(I .u64)×(I .u64)×(I .u64)×Unit)×(I .u64)×((I .u64)×(I .u64)×(I .u64)×(I .u64)×Unit)×(I .u64)×((I .u64)×(I .u64)×(I .u64)×(I .u64)×Unit)×(I .u64)×(I .u64)×(I .u64)×(I .u64)×Unit:=x.1.1
 let b:I .i64:=x.1.2.1
 jn (fun (x0:(((I .i64)×(Bool×Unit))×(((I .u64)×((I .u64)×((I .u64)×(((I .u64)×((I .u64)×((I .u64)×((I .u64)×Unit))))×((I .u64)×(((I .u64)×((I .u64)×((I .u64)×((I .u64)×Unit))))×((I .u64)×(((I .u64)×((I .u64)×((I .u64)×((I .u64)×Unit))))×((I .u64)×((I .u64)×((I .u64)×((I .u64)×Unit))))))))))))×Unit)))=>brn x0.1.2.1 (some ((I.of .u64 1,(I.of .u64 1099511627776,())),())) (jn (fun (x1:(((I .i64)×(Bool×Unit))×(((I .u64)×((I .u64)×((I .u64)×(((I .u64)×((I .u64)×((I .u64)×((I .u64)×Unit))))×((I .u64)×(((I .u64)×((I .u64)×((I .u64)×((I .u64)×Unit))))×((I .u64)×(((I .u64)×((I .u64)×((I .u64)×((I .u64)×Unit))))×((I .u64)×((I .u64)×((I .u64)×((I .u64)×Unit))))))))))))×Unit)))=>brn x1.1.2.1 (some ((I.of .u64 0,(I.of .u64 1048576,())),())) (jn (fun (x2:(((I .i64)×(Bool×Unit))×(((I .u64)×((I .u64)×((I .u64)×(((I .u64)×((I .u64)×((I .u64)×((I .u64)×Unit))))×((I .u64)×(((I .u64)×((I .u64)×((I .u64)×((I .u64)×Unit))))×((I .u64)×(((I .u64)×((I .u64)×((I .u64)×((I .u64)×Unit))))×((I .u64)×((I .u64)×((I .u64)×((I .u64)×Unit))))))))))))×Unit)))=>brn x2.1.2.1 (some ((I.of .u64 1,(I.of .u64 1048576,())),())) (brn (I.eqb x2.1.1 (I.of .i64 4)) (some ((I.of .u64 1,(I.of .u64 18446744073709551615,())),())) (brn (I.eqb x2.1.1 (I.of .i64 7)) (some ((I.of .u64 0,(I.of .u64 10000,())),())) (brn (I.eqb x2.1.1 (I.of .i64 12)) (some ((x2.2.1.2.2.2.2.2.2.2.2.2.2.1,(I.of .u64 16777216,())),())) (some ((I.of .u64 0,(I.of .u64 18446744073709551615,())),())))))) fun j2=>brn (I.eqb x1.1.1 (I.of .i64 3)) (j2 ((x1.1.1,((I.eqb x1.1.1 (I.of .i64 3)),())),(x1.2.1,()))) (j2 ((x1.1.1,((I.eqb x1.1.1 (I.of .i64 10)),())),(x1.2.1,()))))) fun j1=>brn (I.eqb x0.1.1 (I.of .i64 2)) (j1 ((x0.1.1,((I.eqb x0.1.1 (I.of .i64 2)),())),(x0.2.1,()))) (j1 ((x0.1.1,((I.eqb x0.1.1 (I.of .i64 11)),())),(x0.2.1,()))))) fun j0=>brn (I.eqb b (I.of .i64 1)) (j0 ((b,((I.eqb b (I.of .i64 1)),())),(a,()))) (brn (I.eqb b (I.of .i64 5)) (j0 ((b,((I.eqb b (I.of .i64 5)),())),(a,()))) (j0 ((b,((I.eqb b (I.of .i64 9)),())),(a,()))))
def c1X (K:Nat) (x:(⟨[.pl tY5],[]⟩:Tm).D):Option (⟨[.pl (.int .i64)],[]⟩:Tm).D :=
 let a:(I .u64)×(I .u64)×(I .u64)×((I .u64)×(I .u64)×(I .u64)×(I .u64)×Unit)×(I .u64)×((I .u64)×(I .u64)×(I .u64)×(I .u64)×Unit)×(I .u64)×((I .u64)×(I .u64)×(I .u64)×(I .u64)×Unit)×(I .u64)×(I .u64)×(I .u64)×(I .u64)×Unit:=x.1.1
 iter none (fun x0=>brn (I.leb x0.1.1 (I.of .i64 12)) (optF (.done none) (d8N K ((x0.2.1,(x0.1.1,())),())) fun y1=>optF (.done none) (d0M K ((x0.2.1,(x0.1.1,())),())) fun y2=>optF (.done none) (a1P K ((y2.1.1,()),())) fun y3=>optF (.done none) (c1W ((y1.1.1,(y3.1.1,())),())) fun y4=>brn (I.ltb y4.1.1 (I.of .i64 0)) (.done (some ((x0.1.1,()),()))) (optF (.done none) (a1P K ((y2.1.2.1,()),())) fun y5=>optF (.done none) (c1W ((y1.1.1,(y5.1.1,())),())) fun y6=>brn (I.ltb (I.of .i64 0) y6.1.1) (.done (some ((x0.1.1,()),()))) (.again (((I.add x0.1.1 (I.of .i64 1)),()),(x0.2.1,()))))) (.done (some ((I.of .i64 0,()),())))) K ((I.of .i64 1,()),(a,()))
def d3N (K:Nat) (x:(⟨[.pl tY5],[]⟩:Tm).D):Option (⟨[.pl .bool],[]⟩:Tm).D :=
 let a:(I .u64)×(I .u64)×(I .u64)×((I .u64)×(I .u64)×(I .u64)×(I .u64)×Unit)×(I .u64)×((I .u64)×(I .u64)×(I .u64)×(I .u64)×Unit)×(I .u64)×((I .u64)×(I .u64)×(I .u64)×(I .u64)×Unit)×(I .u64)×(I .u64)×(I .u64)×(I .u64)×Unit:=x.1.1
 optF none (c1X K ((a,()),())) fun y0=>some (((I.eqb y0.1.1 (I.of .i64 0)),()),())
def a3Q (K:Nat) (x:(⟨[.pl (.int .u64),.pl (.int .u64),.pl (.int .u64)],[]⟩:Tm).D):Option (⟨[.pl .bool],[]⟩:Tm).D :=
 let a:I .u64:=x.1.1
 let b:I .u64:=x.1.2.1
 let c:I .u64:=x.1.2.2.1
 brn (I.leb b a) (some (((I.leb a c),()),())) (some ((false,()),()))
def a8D (K:Nat) (x:(⟨[.pl (.arr 4 (.int .u64))],[]⟩:Tm).D):Option (⟨[.pl (.int .u64),.pl .bool],[]⟩:Tm).D :=
 let a:(I .u64)×(I .u64)×(I .u64)×(I .u64)×Unit:=x.1.1
 brn (I.neb a.2.1 (I.of .u64 0)) (some ((I.of .u64 0,(false,())),())) (brn (I.neb a.2.2.1 (I.of .u64 0)) (some ((I.of .u64 0,(false,())),())) (brn (I.neb a.2.2.2.1 (I.of .u64 0)) (some ((I.of .u64 0,(false,())),())) (some ((a.1,(true,())),()))))
def a6N (K:Nat) (x:(⟨[.pl (.arr 4 (.int .u64)),.pl (.int .u64)],[]⟩:Tm).D):Option (⟨[.pl .bool],[]⟩:Tm).D :=
 let a:(I .u64)×(I .u64)×(I .u64)×(I .u64)×Unit:=x.1.1
 let b:I .u64:=x.1.2.1
 optF none (a8D K ((a,()),())) fun y0=>brn y0.1.2.1 (some (((I.leb b y0.1.1),()),())) (some ((false,()),()))
def a7I (K:Nat) (x:(⟨[.pl tY5],[]⟩:Tm).D):Option (⟨[.pl (.int .i64)],[]⟩:Tm).D :=
 let a:(I .u64)×(I .u64)×(I .u64)×((I .u64)×(I .u64)×(I .u64)×(I .u64)×Unit)×(I .u64)×((I .u64)×(I .u64)×(I .u64)×(I .u64)×Unit)×(I .u64)×((I .u64)×(I .u64)×(I .u64)×(I .u64)×Unit)×(I .u64)×(I .u64)×(I .u64)×(I .u64)×Unit:=x.1.1
 optF none (a3Q K ((a.1,(I.of .u64 1,(I.of .u64 1099511627776,()))),())) fun y0=>optF none (a3Q K ((a.2.1,(I.of .u64 0,(I.of .u64 1048576,()))),())) fun y1=>optF none (a3Q K ((a.2.2.1,(I.of .u64 1,(I.of .u64 1048576,()))),())) fun y2=>optF none (a6N K ((a.2.2.2.1,(I.of .u64 1,())),())) fun y3=>optF none (a3Q K ((a.2.2.2.2.1,(I.of .u64 1,(I.of .u64 1099511627776,()))),())) fun y4=>optF none (a6N K ((a.2.2.2.2.2.1,(I.of .u64 0,())),())) fun y5=>optF none (a3Q K ((a.2.2.2.2.2.2.1,(I.of .u64 0,(I.of .u64 10000,()))),())) fun y6=>optF none (a6N K ((a.2.2.2.2.2.2.2.1,(I.of .u64 0,())),())) fun y7=>optF none (a3Q K ((a.2.2.2.2.2.2.2.2.1,(I.of .u64 1,(I.of .u64 1099511627776,()))),())) fun y8=>optF none (a3Q K ((a.2.2.2.2.2.2.2.2.2.1,(I.of .u64 1,(I.of .u64 1048576,()))),())) fun y9=>optF none (a3Q K ((a.2.2.2.2.2.2.2.2.2.2.1,(I.of .u64 0,(I.of .u64 1048576,()))),())) fun y10=>optF none (a3Q K ((a.2.2.2.2.2.2.2.2.2.2.2.1,(a.2.2.2.2.2.2.2.2.2.2.1,(I.of .u64 16777216,()))),())) fun y11=>brn (a6O y0.1.1) (some ((I.of .i64 1,()),())) (brn (a6O y1.1.1) (some ((I.of .i64 2,()),())) (brn (a6O y2.1.1) (some ((I.of .i64 3,()),())) (brn (a6O y3.1.1) (some ((I.of .i64 4,()),())) (brn (a6O y4.1.1) (some ((I.of .i64 5,()),())) (brn (a6O y5.1.1) (some ((I.of .i64 6,()),())) (brn (a6O y6.1.1) (some ((I.of .i64 7,()),())) (brn (a6O y7.1.1) (some ((I.of .i64 8,()),())) (brn (a6O y8.1.1) (some ((I.of .i64 9,()),())) (brn (a6O y9.1.1) (some ((I.of .i64 10,()),())) (brn (a6O y10.1.1) (some ((I.of .i64 11,()),())) (brn (a6O y11.1.1) (some ((I.of .i64 12,()),())) (some ((I.of .i64 0,()),())))))))))))))
def a3S (K:Nat) (x:(⟨[.pl tY5],[]⟩:Tm).D):Option (⟨[.pl .bool],[]⟩:Tm).D :=
 let a:(I .u64)×(I .u64)×(I .u64)×((I .u64)×(I .u64)×(I .u64)×(I .u64)×Unit)×(I .u64)×((I .u64)×(I .u64)×(I .u64)×(I .u64)×Unit)×(I .u64)×((I .u64)×(I .u64)×(I .u64)×(I .u64)×Unit)×(I .u64)×(I .u64)×(I .u64)×(I .u64)×Unit:=x.1.1
 optF none (a7I K ((a,()),())) fun y0=>some (((I.eqb y0.1.1 (I.of .i64 0)),()),())
def b2W (K:Nat) (x:(⟨[.pl tY3,.pl tY3,.pl (.int .u64),.pl tY5],[]⟩:Tm).D):Option (⟨[.pl tY3,.pl (.int .i64)],[]⟩:Tm).D :=
 let a:(Bool)×((I .u64)×(I .u64)×(I .u64)×(I .u64)×Unit)×Unit:=x.1.1
 let b:(Bool)×((I .u64)×(I .u64)×(I .u64)×(I .u64)×Unit)×Unit:=x.1.2.1
 let c:I .u64:=x.1.2.2.1
 let d:(I .u64)×(I .u64)×(I .u64)×((I .u64)×(I .u64)×(I .u64)×(I .u64)×Unit)×(I .u64)×((I .u64)×(I .u64)×(I .u64)×(I .u64)×Unit)×(I .u64)×((I .u64)×(I .u64)×(I .u64)×(I .u64)×Unit)×(I .u64)×(I .u64)×(I .u64)×(I .u64)×Unit:=x.1.2.2.2.1
 optF none (a3S K ((d,()),())) fun y0=>brn (a6O y0.1.1) (some (((false,((I.of .u64 0,(I.of .u64 0,(I.of .u64 0,(I.of .u64 0,())))),())),(I.of .i64 15,())),())) (jn (fun (x1:(((I .u64)×Unit)×((Bool×(((I .u64)×((I .u64)×((I .u64)×((I .u64)×Unit))))×Unit))×((Bool×(((I .u64)×((I .u64)×((I .u64)×((I .u64)×Unit))))×Unit))×(((I .u64)×((I .u64)×((I .u64)×(((I .u64)×((I .u64)×((I .u64)×((I .u64)×Unit))))×((I .u64)×(((I .u64)×((I .u64)×((I .u64)×((I .u64)×Unit))))×((I .u64)×(((I .u64)×((I .u64)×((I .u64)×((I .u64)×Unit))))×((I .u64)×((I .u64)×((I .u64)×((I .u64)×Unit))))))))))))×((Bool×(((I .u64)×((I .u64)×((I .u64)×((I .u64)×Unit))))×Unit))×Unit))))))=>optF none (a3M K ((x1.2.1,()),())) fun y2=>optF none (a6M K ((y2.1.1,()),())) fun y3=>optF none (a0H K ((x1.2.2.2.1.2.2.2.2.2.2.2.2.1,()),())) fun y4=>optF none (a5E K ((y3.1.1,(y4.1.1,())),())) fun y5=>optF none (a3M K ((x1.2.1,()),())) fun y6=>optF none (a3M K ((x1.2.2.1,()),())) fun y7=>optF none (a6M K ((y7.1.1,()),())) fun y8=>optF none (a7T K ((y6.1.1,(y8.1.1,())),())) fun y9=>optF none (a0H K ((x1.1.1,()),())) fun y10=>optF none (a5E K ((y9.1.1,(y10.1.1,())),())) fun y11=>optF none (a6M K ((y11.1.1,()),())) fun y12=>optF none (a7T K ((y5.1.1,(y12.1.1,())),())) fun y13=>optF none (a0H K ((x1.1.1,()),())) fun y14=>optF none (b3G K ((y13.1.1,((false,(y14.1.1,())),())),())) fun y15=>jn (fun (x16:(((I .u64)×Unit)×(((I .u64)×((I .u64)×((I .u64)×(((I .u64)×((I .u64)×((I .u64)×((I .u64)×Unit))))×((I .u64)×(((I .u64)×((I .u64)×((I .u64)×((I .u64)×Unit))))×((I .u64)×(((I .u64)×((I .u64)×((I .u64)×((I .u64)×Unit))))×((I .u64)×((I .u64)×((I .u64)×((I .u64)×Unit))))))))))))×((Bool×(((I .u64)×((I .u64)×((I .u64)×((I .u64)×Unit))))×Unit))×((Bool×((List (I .i64))×Unit))×Unit)))))=>optF none (a0H K ((x16.2.1.2.2.2.2.2.2.2.2.1,()),())) fun y17=>optF none (a0H K ((x16.2.1.2.2.2.2.2.2.2.2.2.1,()),())) fun y18=>optF none (a3R K ((y17.1.1,(y18.1.1,())),())) fun y19=>optF none (a0H K ((x16.1.1,()),())) fun y20=>optF none (a1M K ((y19.1.1,(y20.1.1,())),())) fun y21=>optF none (a5E K ((x16.2.2.2.1,(y21.1.1,())),())) fun y22=>optF none (a8Y K ((y22.1.1,()),())) fun y23=>some ((y23.1.1,(y23.1.2.1,())),())) fun j16=>optF none (a2F K ((y9.1.1.2.1,()),())) fun y17=>brn (a6O y17.1.1) (some (((false,((I.of .u64 0,(I.of .u64 0,(I.of .u64 0,(I.of .u64 0,())))),())),(I.of .i64 4,())),())) (optF none (a2F K ((y13.1.1.2.1,()),())) fun y18=>brn (a6O y18.1.1) (some (((false,((I.of .u64 0,(I.of .u64 0,(I.of .u64 0,(I.of .u64 0,())))),())),(I.of .i64 4,())),())) (optF none (a2F K ((y15.1.1.2.1,()),())) fun y19=>brn (a6O y19.1.1) (some (((false,((I.of .u64 0,(I.of .u64 0,(I.of .u64 0,(I.of .u64 0,())))),())),(I.of .i64 4,())),())) (j16 ((x1.1.1,()),(x1.2.2.2.1,(x1.2.2.2.2.1,(y15.1.1,())))))))) fun j1=>optF none (a5A K ((a,()),())) fun y2=>brn (a6O y2.1.1) (some (((false,((I.of .u64 0,(I.of .u64 0,(I.of .u64 0,(I.of .u64 0,())))),())),(I.of .i64 2,())),())) (optF none (a5A K ((b,()),())) fun y3=>brn (a6O y3.1.1) (some (((false,((I.of .u64 0,(I.of .u64 0,(I.of .u64 0,(I.of .u64 0,())))),())),(I.of .i64 2,())),())) (brn (I.eqb c (I.of .u64 0)) (some (((false,((I.of .u64 0,(I.of .u64 0,(I.of .u64 0,(I.of .u64 0,())))),())),(I.of .i64 2,())),())) (j1 ((c,()),(a,(b,(d,((false,((I.of .u64 0,(I.of .u64 0,(I.of .u64 0,(I.of .u64 0,())))),())),())))))))))
def b3V (K:Nat) (x:(⟨[.pl (.arr 4 (.int .u64)),.pl tY3,.pl tY3,.pl (.int .u64),.pl tY5],[]⟩:Tm).D):Option (⟨[.pl (.arr 4 (.int .u64)),.pl (.int .i64)],[]⟩:Tm).D :=
 let a:(I .u64)×(I .u64)×(I .u64)×(I .u64)×Unit:=x.1.1
 let b:(Bool)×((I .u64)×(I .u64)×(I .u64)×(I .u64)×Unit)×Unit:=x.1.2.1
 let c:(Bool)×((I .u64)×(I .u64)×(I .u64)×(I .u64)×Unit)×Unit:=x.1.2.2.1
 let d:I .u64:=x.1.2.2.2.1
 let e:(I .u64)×(I .u64)×(I .u64)×((I .u64)×(I .u64)×(I .u64)×(I .u64)×Unit)×(I .u64)×((I .u64)×(I .u64)×(I .u64)×(I .u64)×Unit)×(I .u64)×((I .u64)×(I .u64)×(I .u64)×(I .u64)×Unit)×(I .u64)×(I .u64)×(I .u64)×(I .u64)×Unit:=x.1.2.2.2.2.1
 optF none (a3S K ((e,()),())) fun y0=>brn (a6O y0.1.1) (some (((I.of .u64 0,(I.of .u64 0,(I.of .u64 0,(I.of .u64 0,())))),(I.of .i64 15,())),())) (jn (fun (x1:(((I .u64)×Unit)×(((I .u64)×((I .u64)×((I .u64)×((I .u64)×Unit))))×((Bool×(((I .u64)×((I .u64)×((I .u64)×((I .u64)×Unit))))×Unit))×((Bool×(((I .u64)×((I .u64)×((I .u64)×((I .u64)×Unit))))×Unit))×(((I .u64)×((I .u64)×((I .u64)×(((I .u64)×((I .u64)×((I .u64)×((I .u64)×Unit))))×((I .u64)×(((I .u64)×((I .u64)×((I .u64)×((I .u64)×Unit))))×((I .u64)×(((I .u64)×((I .u64)×((I .u64)×((I .u64)×Unit))))×((I .u64)×((I .u64)×((I .u64)×((I .u64)×Unit))))))))))))×(((I .u64)×((I .u64)×((I .u64)×((I .u64)×Unit))))×Unit)))))))=>brn (I.eqb x1.1.1 (I.of .u64 0)) (some ((x1.2.1,(I.of .i64 0,())),())) (optF none (b2W K ((x1.2.2.1,(x1.2.2.2.1,(x1.1.1,(x1.2.2.2.2.1,())))),())) fun y2=>brn (I.neb y2.1.2.1 (I.of .i64 0)) (some (((I.of .u64 0,(I.of .u64 0,(I.of .u64 0,(I.of .u64 0,())))),(y2.1.2.1,())),())) (optF none (a9F K ((x1.2.1,(y2.1.1,())),())) fun y3=>some ((y3.1.1,(y3.1.2.1,())),())))) fun j1=>optF none (a5A K ((b,()),())) fun y2=>brn (a6O y2.1.1) (some (((I.of .u64 0,(I.of .u64 0,(I.of .u64 0,(I.of .u64 0,())))),(I.of .i64 2,())),())) (optF none (a5A K ((c,()),())) fun y3=>brn (a6O y3.1.1) (some (((I.of .u64 0,(I.of .u64 0,(I.of .u64 0,(I.of .u64 0,())))),(I.of .i64 2,())),())) (j1 ((d,()),(a,(b,(c,(e,((I.of .u64 0,(I.of .u64 0,(I.of .u64 0,(I.of .u64 0,())))),())))))))))
end
end Sym

/- The given functions as plain functions, as the printer told them. -/
namespace Sym
open Go
noncomputable def d9T (K:Nat) (x:(⟨[.pl (.arr 4 (.int .u64)),.pl (.arr 4 (.int .u64))],[]⟩:Tm).D):Option (⟨[.pl (.arr 4 (.int .u64)),.pl (.arr 4 (.int .u64))],[]⟩:Tm).D :=
 let a:(I .u64)×(I .u64)×(I .u64)×(I .u64)×Unit:=x.1.1
 let b:(I .u64)×(I .u64)×(I .u64)×(I .u64)×Unit:=x.1.2.1
 iter none (fun x0=>brn (I.ltb x0.1.1 (I.of .i64 4)) (iter (.done none) (fun x1=>brn (I.ltb x1.1.2.2.2.1 (I.of .i64 4)) (brn (inB x1.1.1 4) (brn (inB x1.1.2.2.2.1 4) (optF (.done (.done none)) (b6J K (((@Arr.sel (I .u64) (I.of .u64 0) 4 x1.2.1 (I.nat x1.1.1)),((@Arr.sel (I .u64) (I.of .u64 0) 4 x1.2.2.1 (I.nat x1.1.2.2.2.1)),())),())) fun y2=>optF (.done (.done none)) (e9N ((y2.1.2.1,(x1.1.2.1,(I.of .u64 0,()))),())) fun y3=>brn (inB (I.add x1.1.1 x1.1.2.2.2.1) 8) (optF (.done (.done none)) (e9N (((@Arr.sel (I .u64) (I.of .u64 0) 8 x1.2.2.2.2.2.1 (I.nat (I.add x1.1.1 x1.1.2.2.2.1))),(y3.1.1,(I.of .u64 0,()))),())) fun y4=>brn (inB (I.add x1.1.1 x1.1.2.2.2.1) 8) (.again ((x1.1.1,((I.add (I.add y2.1.1 y3.1.2.1) y4.1.2.1),(x1.1.2.2.1,((I.add x1.1.2.2.2.1 (I.of .i64 1)),())))),(x1.2.1,(x1.2.2.1,(x1.2.2.2.1,(x1.2.2.2.2.1,((@Arr.upd (I .u64) 8 x1.2.2.2.2.2.1 (I.nat (I.add x1.1.1 x1.1.2.2.2.1)) y4.1.1),()))))))) (.done (.done none))) (.done (.done none))) (.done (.done none))) (.done (.done none))) (.done (brn (inB (I.add x1.1.1 (I.of .i64 4)) 8) (.again (((I.add x1.1.2.2.1 (I.of .i64 1)),()),(x1.2.1,(x1.2.2.1,(x1.2.2.2.1,(x1.2.2.2.2.1,((@Arr.upd (I .u64) 8 x1.2.2.2.2.2.1 (I.nat (I.add x1.1.1 (I.of .i64 4))) x1.1.2.1),()))))))) (.done none)))) K ((x0.1.1,(I.of .u64 0,(x0.1.1,(I.of .i64 0,())))),(x0.2.1,(x0.2.2.1,(x0.2.2.2.1,(x0.2.2.2.2.1,(x0.2.2.2.2.2.1,()))))))) (.done (some (((@Arr.ofList (I .u64) (I.of .u64 0) 4 (@a3T (I .u64) (@Arr.list (I .u64) 8 x0.2.2.2.2.2.1) 0 4)),((@Arr.ofList (I .u64) (I.of .u64 0) 4 (@a3T (I .u64) (@Arr.list (I .u64) 8 x0.2.2.2.2.2.1) 4 4)),())),())))) K ((I.of .i64 0,()),(a,(b,((I.of .u64 0,(I.of .u64 0,(I.of .u64 0,(I.of .u64 0,())))),((I.of .u64 0,(I.of .u64 0,(I.of .u64 0,(I.of .u64 0,())))),((I.of .u64 0,(I.of .u64 0,(I.of .u64 0,(I.of .u64 0,(I.of .u64 0,(I.of .u64 0,(I.of .u64 0,(I.of .u64 0,())))))))),()))))))
noncomputable def c2R (K:Nat) (x:(⟨[.pl (.arr 4 (.int .u64)),.pl (.arr 4 (.int .u64)),.pl (.arr 4 (.int .u64))],[]⟩:Tm).D):Option (⟨[.pl (.arr 4 (.int .u64)),.pl (.int .i64)],[]⟩:Tm).D :=
 let a:(I .u64)×(I .u64)×(I .u64)×(I .u64)×Unit:=x.1.1
 let b:(I .u64)×(I .u64)×(I .u64)×(I .u64)×Unit:=x.1.2.1
 let c:(I .u64)×(I .u64)×(I .u64)×(I .u64)×Unit:=x.1.2.2.1
 optF none (d9T K ((a,(b,())),())) fun y0=>optF none (d1H K ((y0.1.1,(y0.1.2.1,(c,()))),())) fun y1=>some ((y1.1.1,(y1.1.2.2.1,())),())
noncomputable def e0H (K:Nat) (x:(⟨[.pl (.arr 4 (.int .u64)),.pl (.int .u64)],[]⟩:Tm).D):Option (⟨[.pl (.arr 4 (.int .u64)),.pl (.int .i64)],[]⟩:Tm).D :=
 let a:(I .u64)×(I .u64)×(I .u64)×(I .u64)×Unit:=x.1.1
 let b:I .u64:=x.1.2.1
 optF none (a1P K ((b,()),())) fun y0=>optF none (a1P K ((I.of .u64 10000,()),())) fun y1=>optF none (c2R K ((a,(y0.1.1,(y1.1.1,()))),())) fun y2=>some ((y2.1.1,(y2.1.2.1,())),())
noncomputable def a8O (K:Nat) (x:(⟨[.pl (.sl (.int .u8)),.pl (.int .i64),.pl (.int .i64)],[]⟩:Tm).D):Option (⟨[.pl (.int .i64)],[]⟩:Tm).D :=
 let a:List (I .u8):=x.1.1
 let b:I .i64:=x.1.2.1
 let c:I .i64:=x.1.2.2.1
 iter none (fun x0=>brn (I.ltb x0.1.2.2.2.1 (I.of .i64 131)) (brn (I.ltb (I.add x0.1.2.1 x0.1.2.2.2.1) (I.ofNat .i64 (@a0K (I .u8) x0.1.1))) (brn (inB (I.add x0.1.2.1 x0.1.2.2.2.1) (@a0K (I .u8) x0.1.1)) (brn (inB (I.sub (I.add x0.1.2.1 x0.1.2.2.2.1) x0.1.2.2.1) (@a0K (I .u8) x0.1.1)) (brn (I.eqb (@rdL (I .u8) (I.of .u8 0) x0.1.1 (I.nat (I.add x0.1.2.1 x0.1.2.2.2.1))) (@rdL (I .u8) (I.of .u8 0) x0.1.1 (I.nat (I.sub (I.add x0.1.2.1 x0.1.2.2.2.1) x0.1.2.2.1)))) (.again ((x0.1.1,(x0.1.2.1,(x0.1.2.2.1,((I.add x0.1.2.2.2.1 (I.of .i64 1)),())))),())) (.done (some ((x0.1.2.2.2.1,()),())))) (.done none)) (.done none)) (.done (some ((x0.1.2.2.2.1,()),())))) (.done (some ((x0.1.2.2.2.1,()),())))) K ((a,(b,(c,(I.of .i64 0,())))),())
noncomputable def b5O (K:Nat) (x:(⟨[.pl (.sl (.int .u8)),.pl (.int .i64)],[]⟩:Tm).D):Option (⟨[.pl (.int .i64),.pl (.int .i64)],[]⟩:Tm).D :=
 let a:List (I .u8):=x.1.1
 let b:I .i64:=x.1.2.1
 iter none (fun x0=>jn (fun (x1:(((List (I .u8))×((I .i64)×((I .i64)×((I .i64)×((I .i64)×((I .i64)×((I .i64)×(Bool×Unit))))))))×Unit))=>optF (.done none) (a8O K ((x1.1.1,(x1.1.2.1,(x1.1.2.2.2.2.1,()))),())) fun y2=>brn (I.ltb x1.1.2.2.1 y2.1.1) (.again ((x1.1.1,(x1.1.2.1,(y2.1.1,(x1.1.2.2.2.2.1,((I.add x1.1.2.2.2.2.1 (I.of .i64 1)),()))))),())) (.again ((x1.1.1,(x1.1.2.1,(x1.1.2.2.1,(x1.1.2.2.2.1,((I.add x1.1.2.2.2.2.1 (I.of .i64 1)),()))))),()))) fun j1=>brn (I.leb x0.1.2.2.2.2.1 (I.of .i64 1024)) (brn (I.leb x0.1.2.2.2.2.1 x0.1.2.1) (j1 ((x0.1.1,(x0.1.2.1,(x0.1.2.2.1,(x0.1.2.2.2.1,(x0.1.2.2.2.2.1,(x0.1.2.2.2.2.1,(x0.1.2.1,((I.leb x0.1.2.2.2.2.1 x0.1.2.1),())))))))),())) (.done (some ((x0.1.2.2.1,(x0.1.2.2.2.1,())),())))) (.done (some ((x0.1.2.2.1,(x0.1.2.2.2.1,())),())))) K ((a,(b,(I.of .i64 0,(I.of .i64 0,(I.of .i64 1,()))))),())
noncomputable def b0N (K:Nat) (x:(⟨[.pl (.sl (.int .u8))],[]⟩:Tm).D):Option (⟨[.pl (.sl (.int .u8))],[]⟩:Tm).D :=
 let a:List (I .u8):=x.1.1
 iter none (fun x0=>brn (I.ltb x0.1.2.2.1 (I.ofNat .i64 (@a0K (I .u8) x0.1.1))) (optF (.done none) (b5O K ((x0.1.1,(x0.1.2.2.1,())),())) fun y1=>brn (I.ltb y1.1.1 (I.of .i64 4)) (.again ((x0.1.1,(x0.1.2.1,((I.add x0.1.2.2.1 (I.of .i64 1)),()))),(x0.2.1,()))) (brn (inB' x0.1.2.1 (I.nat x0.1.2.2.1)) (brn (inB' x0.1.2.2.1 (@a0K (I .u8) x0.1.1)) (iter (.done none) (fun x2=>brn (I.ltb (I.of .i64 0) (I.ofNat .i64 (@a0K (I .u8) x2.1.1))) (brn (I.ltb (I.of .i64 127) (I.ofNat .i64 (@a0K (I .u8) x2.1.1))) (brn (a1D (@a0K (I .u8) (@a2C (I .u8) x2.2.1 ((I.of .u8 127)::[])))) (brn (inB' (I.of .i64 127) (@a0K (I .u8) x2.1.1)) (brn (a1D (@a0K (I .u8) (@a2C (I .u8) (@a2C (I .u8) x2.2.1 ((I.of .u8 127)::[])) (@a3T (I .u8) x2.1.1 0 127)))) (brn (inB' (I.of .i64 127) (@a0K (I .u8) x2.1.1)) (.again (((@a3T (I .u8) x2.1.1 127 ((@a0K (I .u8) x2.1.1)-127)),(x2.1.2.1,(x2.1.2.2.1,(x2.1.2.2.2.1,(x2.1.2.2.2.2.1,()))))),((@a2C (I .u8) (@a2C (I .u8) x2.2.1 ((I.of .u8 127)::[])) (@a3T (I .u8) x2.1.1 0 127)),()))) (.done (.done none))) (.done (.done none))) (.done (.done none))) (.done (.done none))) (brn (a1D (@a0K (I .u8) (@a2C (I .u8) x2.2.1 ((I.conv (k:=.i64) .u8 (I.ofNat .i64 (@a0K (I .u8) x2.1.1)))::[])))) (brn (inB' (I.ofNat .i64 (@a0K (I .u8) x2.1.1)) (@a0K (I .u8) x2.1.1)) (brn (a1D (@a0K (I .u8) (@a2C (I .u8) (@a2C (I .u8) x2.2.1 ((I.conv (k:=.i64) .u8 (I.ofNat .i64 (@a0K (I .u8) x2.1.1)))::[])) (@a3T (I .u8) x2.1.1 0 (I.nat (I.ofNat .i64 (@a0K (I .u8) x2.1.1))))))) (brn (inB' (I.ofNat .i64 (@a0K (I .u8) x2.1.1)) (@a0K (I .u8) x2.1.1)) (.again (((@a3T (I .u8) x2.1.1 (I.nat (I.ofNat .i64 (@a0K (I .u8) x2.1.1))) ((@a0K (I .u8) x2.1.1)-(I.nat (I.ofNat .i64 (@a0K (I .u8) x2.1.1))))),(x2.1.2.1,(x2.1.2.2.1,(x2.1.2.2.2.1,(x2.1.2.2.2.2.1,()))))),((@a2C (I .u8) (@a2C (I .u8) x2.2.1 ((I.conv (k:=.i64) .u8 (I.ofNat .i64 (@a0K (I .u8) x2.1.1)))::[])) (@a3T (I .u8) x2.1.1 0 (I.nat (I.ofNat .i64 (@a0K (I .u8) x2.1.1))))),()))) (.done (.done none))) (.done (.done none))) (.done (.done none))) (.done (.done none)))) (.done (brn (a1D (@a0K (I .u8) (@a2C (I .u8) x2.2.1 ((I.conv (k:=.i64) .u8 (I.add x2.1.2.2.2.1 (I.of .i64 124)))::((I.conv (k:=.i64) .u8 (I.quo (I.sub x2.1.2.2.2.2.1 (I.of .i64 1)) (I.of .i64 256)))::((I.conv (k:=.i64) .u8 (I.rem (I.sub x2.1.2.2.2.2.1 (I.of .i64 1)) (I.of .i64 256)))::[])))))) (.again ((x2.1.2.1,((I.add x2.1.2.2.1 x2.1.2.2.2.1),((I.add x2.1.2.2.1 x2.1.2.2.2.1),()))),((@a2C (I .u8) x2.2.1 ((I.conv (k:=.i64) .u8 (I.add x2.1.2.2.2.1 (I.of .i64 124)))::((I.conv (k:=.i64) .u8 (I.quo (I.sub x2.1.2.2.2.2.1 (I.of .i64 1)) (I.of .i64 256)))::((I.conv (k:=.i64) .u8 (I.rem (I.sub x2.1.2.2.2.2.1 (I.of .i64 1)) (I.of .i64 256)))::[])))),()))) (.done none)))) K (((@a3T (I .u8) x0.1.1 (I.nat x0.1.2.1) ((I.nat x0.1.2.2.1)-(I.nat x0.1.2.1))),(x0.1.1,(x0.1.2.2.1,(y1.1.1,(y1.1.2.1,()))))),(x0.2.1,()))) (.done none)) (.done none))) (.done (brn (inB' x0.1.2.1 (@a0K (I .u8) x0.1.1)) (iter none (fun x1=>brn (I.ltb (I.of .i64 0) (I.ofNat .i64 (@a0K (I .u8) x1.1.1))) (brn (I.ltb (I.of .i64 127) (I.ofNat .i64 (@a0K (I .u8) x1.1.1))) (brn (a1D (@a0K (I .u8) (@a2C (I .u8) x1.2.1 ((I.of .u8 127)::[])))) (brn (inB' (I.of .i64 127) (@a0K (I .u8) x1.1.1)) (brn (a1D (@a0K (I .u8) (@a2C (I .u8) (@a2C (I .u8) x1.2.1 ((I.of .u8 127)::[])) (@a3T (I .u8) x1.1.1 0 127)))) (brn (inB' (I.of .i64 127) (@a0K (I .u8) x1.1.1)) (.again (((@a3T (I .u8) x1.1.1 127 ((@a0K (I .u8) x1.1.1)-127)),()),((@a2C (I .u8) (@a2C (I .u8) x1.2.1 ((I.of .u8 127)::[])) (@a3T (I .u8) x1.1.1 0 127)),()))) (.done none)) (.done none)) (.done none)) (.done none)) (brn (a1D (@a0K (I .u8) (@a2C (I .u8) x1.2.1 ((I.conv (k:=.i64) .u8 (I.ofNat .i64 (@a0K (I .u8) x1.1.1)))::[])))) (brn (inB' (I.ofNat .i64 (@a0K (I .u8) x1.1.1)) (@a0K (I .u8) x1.1.1)) (brn (a1D (@a0K (I .u8) (@a2C (I .u8) (@a2C (I .u8) x1.2.1 ((I.conv (k:=.i64) .u8 (I.ofNat .i64 (@a0K (I .u8) x1.1.1)))::[])) (@a3T (I .u8) x1.1.1 0 (I.nat (I.ofNat .i64 (@a0K (I .u8) x1.1.1))))))) (brn (inB' (I.ofNat .i64 (@a0K (I .u8) x1.1.1)) (@a0K (I .u8) x1.1.1)) (.again (((@a3T (I .u8) x1.1.1 (I.nat (I.ofNat .i64 (@a0K (I .u8) x1.1.1))) ((@a0K (I .u8) x1.1.1)-(I.nat (I.ofNat .i64 (@a0K (I .u8) x1.1.1))))),()),((@a2C (I .u8) (@a2C (I .u8) x1.2.1 ((I.conv (k:=.i64) .u8 (I.ofNat .i64 (@a0K (I .u8) x1.1.1)))::[])) (@a3T (I .u8) x1.1.1 0 (I.nat (I.ofNat .i64 (@a0K (I .u8) x1.1.1))))),()))) (.done none)) (.done none)) (.done none)) (.done none))) (.done (some ((x1.2.1,()),())))) K (((@a3T (I .u8) x0.1.1 (I.nat x0.1.2.1) ((@a0K (I .u8) x0.1.1)-(I.nat x0.1.2.1))),()),(x0.2.1,()))) none))) K ((a,(I.of .i64 0,(I.of .i64 0,()))),([],()))
noncomputable def b2L (K:Nat) (x:(⟨[.pl (.sl (.int .u8)),.pl (.int .u64),.pl (.int .u64)],[]⟩:Tm).D):Option (⟨[.pl (.int .u64),.pl (.int .i64)],[]⟩:Tm).D :=
 let a:List (I .u8):=x.1.1
 let b:I .u64:=x.1.2.1
 let c:I .u64:=x.1.2.2.1
 brn (I.ltb c b) (some ((I.of .u64 0,(I.of .i64 2,())),())) (brn (I.ltb (I.of .i64 4096) (I.ofNat .i64 (@a0K (I .u8) a))) (some ((I.of .u64 0,(I.of .i64 6,())),())) (optF none (b0N K ((a,()),())) fun y0=>jn (fun (x1:(((I .u64)×((I .u64)×Unit))×Unit))=>brn (I.ltb x1.1.1 x1.1.2.1) (some ((x1.1.1,(I.of .i64 0,())),())) (some ((x1.1.2.1,(I.of .i64 0,())),()))) fun j1=>brn (I.ltb (I.mul (I.conv (k:=.i64) .u64 (I.ofNat .i64 (@a0K (I .u8) y0.1.1))) (I.of .u64 16)) b) (j1 ((c,(b,())),())) (j1 ((c,((I.mul (I.conv (k:=.i64) .u64 (I.ofNat .i64 (@a0K (I .u8) y0.1.1))) (I.of .u64 16)),())),()))))
noncomputable def b5L (K:Nat) (x:(⟨[.pl tY6,.pl (.arr 4 (.int .u64)),.pl (.arr 4 (.int .u64)),.pl tY5],[]⟩:Tm).D):Option (⟨[.pl (.int .u64),.pl (.int .u64),.pl (.int .i64)],[]⟩:Tm).D :=
 let a:(I .u64)×(I .u64)×(I .u64)×((I .u64)×(I .u64)×(I .u64)×(I .u64)×Unit)×(I .u64)×((I .u64)×(I .u64)×(I .u64)×(I .u64)×Unit)×((I .u64)×(I .u64)×(I .u64)×(I .u64)×Unit)×(I .u64)×(List (I .u8))×Unit:=x.1.1
 let b:(I .u64)×(I .u64)×(I .u64)×(I .u64)×Unit:=x.1.2.1
 let c:(I .u64)×(I .u64)×(I .u64)×(I .u64)×Unit:=x.1.2.2.1
 let d:(I .u64)×(I .u64)×(I .u64)×((I .u64)×(I .u64)×(I .u64)×(I .u64)×Unit)×(I .u64)×((I .u64)×(I .u64)×(I .u64)×(I .u64)×Unit)×(I .u64)×((I .u64)×(I .u64)×(I .u64)×(I .u64)×Unit)×(I .u64)×(I .u64)×(I .u64)×(I .u64)×Unit:=x.1.2.2.2.1
 optF none (a3S K ((d,()),())) fun y0=>brn (a6O y0.1.1) (some ((I.of .u64 0,(I.of .u64 0,(I.of .i64 15,()))),())) (optF none (a2M K ((b,()),())) fun y1=>brn y1.1.1 (some ((I.of .u64 0,(I.of .u64 0,(I.of .i64 5,()))),())) (optF none (a0C K ((a.2.2.2.2.2.1,()),())) fun y2=>optF none (a0C K ((b,()),())) fun y3=>optF none (a2X K ((y2.1.1,(y3.1.1,())),())) fun y4=>brn (I.ltb y4.1.1 (I.of .i64 0)) (some ((I.of .u64 0,(I.of .u64 0,(I.of .i64 12,()))),())) (optF none (b2L K ((a.2.2.2.2.2.2.2.2.1,(d.2.2.2.2.2.2.2.2.2.2.1,(d.2.2.2.2.2.2.2.2.2.2.2.1,()))),())) fun y5=>brn (I.neb y5.1.2.1 (I.of .i64 0)) (some ((I.of .u64 0,(I.of .u64 0,(y5.1.2.1,()))),())) (optF none (a0H K ((y5.1.1,()),())) fun y6=>optF none (a0C K ((c,()),())) fun y7=>optF none (a2A K ((y6.1.1,(y7.1.1,())),())) fun y8=>optF none (a2F K ((y8.1.1,()),())) fun y9=>brn (a6O y9.1.1) (some ((I.of .u64 0,(I.of .u64 0,(I.of .i64 4,()))),())) (optF none (a0C K ((b,()),())) fun y10=>optF none (a3R K ((y8.1.1,(y10.1.1,())),())) fun y11=>optF none (a0H K ((a.2.2.2.2.1,()),())) fun y12=>optF none (a2X K ((y11.1.1,(y12.1.1,())),())) fun y13=>brn (I.ltb (I.of .i64 0) y13.1.1) (some ((I.of .u64 0,(I.of .u64 0,(I.of .i64 13,()))),())) (optF none (a0P K ((y11.1.1,()),())) fun y14=>some ((y5.1.1,(y14.1.1.1,(I.of .i64 0,()))),())))))))
noncomputable def b0J (K:Nat) (x:(⟨[.pl tY6,.pl (.arr 4 (.int .u64)),.pl (.arr 4 (.int .u64)),.pl tY5],[]⟩:Tm).D):Option (⟨[.pl (.cons (.int .u64) (.cons (.int .u64) (.cons (.int .u64) (.cons (.int .u64) (.cons .bool (.cons (.arr 4 (.int .u64)) (.cons (.arr 4 (.int .u64)) (.cons (.arr 4 (.int .u64)) (.cons (.arr 4 (.int .u64)) (.cons (.arr 4 (.int .u64)) .nil)))))))))),.pl (.int .i64)],[]⟩:Tm).D :=
 let a:(I .u64)×(I .u64)×(I .u64)×((I .u64)×(I .u64)×(I .u64)×(I .u64)×Unit)×(I .u64)×((I .u64)×(I .u64)×(I .u64)×(I .u64)×Unit)×((I .u64)×(I .u64)×(I .u64)×(I .u64)×Unit)×(I .u64)×(List (I .u8))×Unit:=x.1.1
 let b:(I .u64)×(I .u64)×(I .u64)×(I .u64)×Unit:=x.1.2.1
 let c:(I .u64)×(I .u64)×(I .u64)×(I .u64)×Unit:=x.1.2.2.1
 let d:(I .u64)×(I .u64)×(I .u64)×((I .u64)×(I .u64)×(I .u64)×(I .u64)×Unit)×(I .u64)×((I .u64)×(I .u64)×(I .u64)×(I .u64)×Unit)×(I .u64)×((I .u64)×(I .u64)×(I .u64)×(I .u64)×Unit)×(I .u64)×(I .u64)×(I .u64)×(I .u64)×Unit:=x.1.2.2.2.1
 optF none (b5L K ((a,(b,(c,(d,())))),())) fun y0=>brn (I.neb y0.1.2.2.1 (I.of .i64 0)) (some (((I.of .u64 0,(I.of .u64 0,(I.of .u64 0,(I.of .u64 0,(false,((I.of .u64 0,(I.of .u64 0,(I.of .u64 0,(I.of .u64 0,())))),((I.of .u64 0,(I.of .u64 0,(I.of .u64 0,(I.of .u64 0,())))),((I.of .u64 0,(I.of .u64 0,(I.of .u64 0,(I.of .u64 0,())))),((I.of .u64 0,(I.of .u64 0,(I.of .u64 0,(I.of .u64 0,())))),((I.of .u64 0,(I.of .u64 0,(I.of .u64 0,(I.of .u64 0,())))),())))))))))),(y0.1.2.2.1,())),())) (jn (fun (x1:(((I .u64)×Unit)×(((I .u64)×((I .u64)×((I .u64)×(((I .u64)×((I .u64)×((I .u64)×((I .u64)×Unit))))×((I .u64)×(((I .u64)×((I .u64)×((I .u64)×((I .u64)×Unit))))×(((I .u64)×((I .u64)×((I .u64)×((I .u64)×Unit))))×((I .u64)×((List (I .u8))×Unit)))))))))×(((I .u64)×((I .u64)×((I .u64)×((I .u64)×Unit))))×(((I .u64)×((I .u64)×((I .u64)×(((I .u64)×((I .u64)×((I .u64)×((I .u64)×Unit))))×((I .u64)×(((I .u64)×((I .u64)×((I .u64)×((I .u64)×Unit))))×((I .u64)×(((I .u64)×((I .u64)×((I .u64)×((I .u64)×Unit))))×((I .u64)×((I .u64)×((I .u64)×((I .u64)×Unit))))))))))))×(((I .u64)×((I .u64)×((I .u64)×((I .u64)×(Bool×(((I .u64)×((I .u64)×((I .u64)×((I .u64)×Unit))))×(((I .u64)×((I .u64)×((I .u64)×((I .u64)×Unit))))×(((I .u64)×((I .u64)×((I .u64)×((I .u64)×Unit))))×(((I .u64)×((I .u64)×((I .u64)×((I .u64)×Unit))))×(((I .u64)×((I .u64)×((I .u64)×((I .u64)×Unit))))×Unit))))))))))×(((I .u64)×((I .u64)×((I .u64)×((I .u64)×(Bool×(((I .u64)×((I .u64)×((I .u64)×((I .u64)×Unit))))×(((I .u64)×((I .u64)×((I .u64)×((I .u64)×Unit))))×(((I .u64)×((I .u64)×((I .u64)×((I .u64)×Unit))))×(((I .u64)×((I .u64)×((I .u64)×((I .u64)×Unit))))×(((I .u64)×((I .u64)×((I .u64)×((I .u64)×Unit))))×Unit))))))))))×Unit)))))))=>optF none (a0C K ((x1.2.2.1,()),())) fun y2=>optF none (a9N K ((x1.2.1,(x1.2.2.1,())),())) fun y3=>optF none (a0H K ((x1.1.1,()),())) fun y4=>optF none (a2A K ((y2.1.1,(y4.1.1,())),())) fun y5=>optF none (a0H K ((x1.2.2.2.2.2.1.2.2.1,()),())) fun y6=>optF none (a2A K ((y2.1.1,(y6.1.1,())),())) fun y7=>optF none (a0C K ((x1.2.2.2.1.2.2.2.2.2.1,()),())) fun y8=>optF none (a4N K ((y8.1.1,(y2.1.1,())),())) fun y9=>optF none (a0H K ((x1.2.2.2.2.2.1.2.2.1,()),())) fun y10=>optF none (a2A K ((y9.1.1,(y10.1.1,())),())) fun y11=>optF none (a2Q K ((y7.1.1,(y11.1.1,())),())) fun y12=>optF none (a0H K ((x1.2.2.2.1.2.2.2.2.2.2.1,()),())) fun y13=>optF none (a2A K ((y12.1.1,(y13.1.1,())),())) fun y14=>optF none (a0H K ((I.of .u64 10000,()),())) fun y15=>optF none (a3R K ((y14.1.1,(y15.1.1,())),())) fun y16=>optF none (a2Q K ((y12.1.1,(y16.1.1,())),())) fun y17=>optF none (a0H K (((I.add x1.1.1 x1.2.2.2.2.2.1.2.2.1),()),())) fun y18=>optF none (a2A K ((y3.1.1,(y18.1.1,())),())) fun y19=>optF none (a1M K ((y17.1.1,(y19.1.1,())),())) fun y20=>jn (fun (x21:(((List (I .i64))×((List (I .i64))×((List (I .i64))×((List (I .i64))×((List (I .i64))×Unit)))))×(((I .u64)×((I .u64)×((I .u64)×((I .u64)×(Bool×(((I .u64)×((I .u64)×((I .u64)×((I .u64)×Unit))))×(((I .u64)×((I .u64)×((I .u64)×((I .u64)×Unit))))×(((I .u64)×((I .u64)×((I .u64)×((I .u64)×Unit))))×(((I .u64)×((I .u64)×((I .u64)×((I .u64)×Unit))))×(((I .u64)×((I .u64)×((I .u64)×((I .u64)×Unit))))×Unit))))))))))×(((I .u64)×((I .u64)×((I .u64)×((I .u64)×(Bool×(((I .u64)×((I .u64)×((I .u64)×((I .u64)×Unit))))×(((I .u64)×((I .u64)×((I .u64)×((I .u64)×Unit))))×(((I .u64)×((I .u64)×((I .u64)×((I .u64)×Unit))))×(((I .u64)×((I .u64)×((I .u64)×((I .u64)×Unit))))×(((I .u64)×((I .u64)×((I .u64)×((I .u64)×Unit))))×Unit))))))))))×Unit))))=>optF none (a0P K ((x21.1.1,()),())) fun y22=>optF none (a0P K ((x21.1.2.1,()),())) fun y23=>optF none (a0P K ((x21.1.2.2.1,()),())) fun y24=>optF none (a0P K ((x21.1.2.2.2.1,()),())) fun y25=>optF none (a0P K ((x21.1.2.2.2.2.1,()),())) fun y26=>some (((x21.2.2.1.1,(x21.2.2.1.2.1,(x21.2.2.1.2.2.1,(x21.2.2.1.2.2.2.1,(x21.2.2.1.2.2.2.2.1,(y22.1.1,(y23.1.1,(y24.1.1,(y26.1.1,(y25.1.1,x21.2.2.1.2.2.2.2.2.2.2.2.2.2)))))))))),(I.of .i64 0,())),())) fun j21=>optF none (a2F K ((y5.1.1,()),())) fun y22=>brn (a6O y22.1.1) (some (((I.of .u64 0,(I.of .u64 0,(I.of .u64 0,(I.of .u64 0,(false,((I.of .u64 0,(I.of .u64 0,(I.of .u64 0,(I.of .u64 0,())))),((I.of .u64 0,(I.of .u64 0,(I.of .u64 0,(I.of .u64 0,())))),((I.of .u64 0,(I.of .u64 0,(I.of .u64 0,(I.of .u64 0,())))),((I.of .u64 0,(I.of .u64 0,(I.of .u64 0,(I.of .u64 0,())))),((I.of .u64 0,(I.of .u64 0,(I.of .u64 0,(I.of .u64 0,())))),())))))))))),(I.of .i64 4,())),())) (optF none (a2F K ((y7.1.1,()),())) fun y23=>brn (a6O y23.1.1) (some (((I.of .u64 0,(I.of .u64 0,(I.of .u64 0,(I.of .u64 0,(false,((I.of .u64 0,(I.of .u64 0,(I.of .u64 0,(I.of .u64 0,())))),((I.of .u64 0,(I.of .u64 0,(I.of .u64 0,(I.of .u64 0,())))),((I.of .u64 0,(I.of .u64 0,(I.of .u64 0,(I.of .u64 0,())))),((I.of .u64 0,(I.of .u64 0,(I.of .u64 0,(I.of .u64 0,())))),((I.of .u64 0,(I.of .u64 0,(I.of .u64 0,(I.of .u64 0,())))),())))))))))),(I.of .i64 4,())),())) (optF none (a2F K ((y20.1.1,()),())) fun y24=>brn (a6O y24.1.1) (some (((I.of .u64 0,(I.of .u64 0,(I.of .u64 0,(I.of .u64 0,(false,((I.of .u64 0,(I.of .u64 0,(I.of .u64 0,(I.of .u64 0,())))),((I.of .u64 0,(I.of .u64 0,(I.of .u64 0,(I.of .u64 0,())))),((I.of .u64 0,(I.of .u64 0,(I.of .u64 0,(I.of .u64 0,())))),((I.of .u64 0,(I.of .u64 0,(I.of .u64 0,(I.of .u64 0,())))),((I.of .u64 0,(I.of .u64 0,(I.of .u64 0,(I.of .u64 0,())))),())))))))))),(I.of .i64 4,())),())) (j21 ((y3.1.1,(y5.1.1,(y11.1.1,(y16.1.1,(y20.1.1,()))))),(x1.2.2.2.2.1,((x1.2.2.2.2.2.1.1,(x1.2.2.2.2.2.1.2.1,(x1.2.2.2.2.2.1.2.2.1,((I.add x1.1.1 x1.2.2.2.2.2.1.2.2.1),x1.2.2.2.2.2.1.2.2.2.2)))),()))))))) fun j1=>brn (I.ltb (I.sub a.2.2.2.2.1 y0.1.2.1) a.2.2.2.2.2.2.2.1) (j1 ((y0.1.2.1,()),(a,(b,(d,((I.of .u64 0,(I.of .u64 0,(I.of .u64 0,(I.of .u64 0,(false,((I.of .u64 0,(I.of .u64 0,(I.of .u64 0,(I.of .u64 0,())))),((I.of .u64 0,(I.of .u64 0,(I.of .u64 0,(I.of .u64 0,())))),((I.of .u64 0,(I.of .u64 0,(I.of .u64 0,(I.of .u64 0,())))),((I.of .u64 0,(I.of .u64 0,(I.of .u64 0,(I.of .u64 0,())))),((I.of .u64 0,(I.of .u64 0,(I.of .u64 0,(I.of .u64 0,())))),())))))))))),((y0.1.1,(y0.1.2.1,((I.sub a.2.2.2.2.1 y0.1.2.1),(I.of .u64 0,(true,((I.of .u64 0,(I.of .u64 0,(I.of .u64 0,(I.of .u64 0,())))),((I.of .u64 0,(I.of .u64 0,(I.of .u64 0,(I.of .u64 0,())))),((I.of .u64 0,(I.of .u64 0,(I.of .u64 0,(I.of .u64 0,())))),((I.of .u64 0,(I.of .u64 0,(I.of .u64 0,(I.of .u64 0,())))),((I.of .u64 0,(I.of .u64 0,(I.of .u64 0,(I.of .u64 0,())))),())))))))))),()))))))) (j1 ((y0.1.2.1,()),(a,(b,(d,((I.of .u64 0,(I.of .u64 0,(I.of .u64 0,(I.of .u64 0,(false,((I.of .u64 0,(I.of .u64 0,(I.of .u64 0,(I.of .u64 0,())))),((I.of .u64 0,(I.of .u64 0,(I.of .u64 0,(I.of .u64 0,())))),((I.of .u64 0,(I.of .u64 0,(I.of .u64 0,(I.of .u64 0,())))),((I.of .u64 0,(I.of .u64 0,(I.of .u64 0,(I.of .u64 0,())))),((I.of .u64 0,(I.of .u64 0,(I.of .u64 0,(I.of .u64 0,())))),())))))))))),((y0.1.1,(y0.1.2.1,(a.2.2.2.2.2.2.2.1,(I.of .u64 0,(false,((I.of .u64 0,(I.of .u64 0,(I.of .u64 0,(I.of .u64 0,())))),((I.of .u64 0,(I.of .u64 0,(I.of .u64 0,(I.of .u64 0,())))),((I.of .u64 0,(I.of .u64 0,(I.of .u64 0,(I.of .u64 0,())))),((I.of .u64 0,(I.of .u64 0,(I.of .u64 0,(I.of .u64 0,())))),((I.of .u64 0,(I.of .u64 0,(I.of .u64 0,(I.of .u64 0,())))),())))))))))),()))))))))
end Sym

/- The given functions as plain functions, as the printer told them. -/
namespace Sym
open Go
noncomputable def pw {α:Type} (z:α) (f:α→α) (i:Nat) (l:List α):List α:=setAt l i (f (rdL z l i))
noncomputable abbrev Z_U:U:=((I.of .u64 0),((I.of .u64 0),((I.of .u64 0),((I.of .u64 0),()))))
abbrev a0A:Type:=(I .u64)×(U×(U×(U×(U×((I .u64)×Unit)))))
noncomputable abbrev a0S:a0A:=((I.of .u64 0),(Z_U,(Z_U,(Z_U,(Z_U,((I.of .u64 0),()))))))
abbrev c5U:Type:=a0A×((I .i64)×Unit)
noncomputable abbrev d1G:c5U:=(a0S,((I.of .i64 0),()))
noncomputable def b1S (K:Nat) (x:(⟨[.pl (.sl tY1)],[]⟩:Tm).D):Option (⟨[.pl (.sl tY1)],[]⟩:Tm).D :=
 let a:(List a0A):=x.1.1
 iter none (fun x0=>brn (I.ltb x0.1.2.1 (I.ofNat .i64 (@a0K a0A x0.1.1))) (brn (inB x0.1.2.1 (@a0K a0A x0.1.1)) (brn (Ty.eqb (.arr 4 (.int .u64)) (@rdL a0A a0S x0.1.1 (I.nat x0.1.2.1)).2.1 Z_U) (.again ((x0.1.1,((I.add x0.1.2.1 (I.of .i64 1)),())),(x0.2.1,()))) (jn (fun (x1:(((List a0A)×((I .i64)×((I .i64)×Unit)))×((List a0A)×Unit)))=>brn (inB' x1.1.2.2.1 (@a0K a0A x1.2.1)) (brn (eqV x1.1.2.2.1 x1.1.2.2.1) (brn (inB x1.1.2.1 (@a0K a0A x1.1.1)) (brn (inB' x1.1.2.2.1 (@a0K a0A x1.2.1)) (brn (a1D (@a0K a0A (@a2C a0A ((@rdL a0A a0S x1.1.1 (I.nat x1.1.2.1))::[]) (@a3T a0A x1.2.1 (I.nat x1.1.2.2.1) ((@a0K a0A x1.2.1)-(I.nat x1.1.2.2.1)))))) (brn (a1D (@a0K a0A (@a2C a0A (@a3T a0A x1.2.1 0 (I.nat x1.1.2.2.1)) (@a2C a0A ((@rdL a0A a0S x1.1.1 (I.nat x1.1.2.1))::[]) (@a3T a0A x1.2.1 (I.nat x1.1.2.2.1) ((@a0K a0A x1.2.1)-(I.nat x1.1.2.2.1))))))) (brn (c6W (@a0K a0A (@a2C a0A ((@rdL a0A a0S x1.1.1 (I.nat x1.1.2.1))::[]) (@a3T a0A x1.2.1 (I.nat x1.1.2.2.1) ((@a0K a0A x1.2.1)-(I.nat x1.1.2.2.1)))))) (.done none) (.again ((x1.1.1,((I.add x1.1.2.1 (I.of .i64 1)),())),((@a2C a0A (@a3T a0A x1.2.1 0 (I.nat x1.1.2.2.1)) (@a2C a0A ((@rdL a0A a0S x1.1.1 (I.nat x1.1.2.1))::[]) (@a3T a0A x1.2.1 (I.nat x1.1.2.2.1) ((@a0K a0A x1.2.1)-(I.nat x1.1.2.2.1))))),())))) (.done none)) (.done none)) (.done none)) (.done none)) (.done none)) (.done none)) fun j1=>iter (.done none) (fun x2=>brn (I.ltb (I.of .i64 0) x2.1.2.2.1) (brn (inB (I.sub x2.1.2.2.1 (I.of .i64 1)) (@a0K a0A x2.2.1)) (brn (inB x2.1.2.1 (@a0K a0A x2.1.1)) (brn (I.ltb (@rdL a0A a0S x2.1.1 (I.nat x2.1.2.1)).2.2.2.2.2.1 (@rdL a0A a0S x2.2.1 (I.nat (I.sub x2.1.2.2.1 (I.of .i64 1)))).2.2.2.2.2.1) (.again ((x2.1.1,(x2.1.2.1,((I.sub x2.1.2.2.1 (I.of .i64 1)),()))),(x2.2.1,()))) (brn (inB (I.sub x2.1.2.2.1 (I.of .i64 1)) (@a0K a0A x2.2.1)) (brn (inB x2.1.2.1 (@a0K a0A x2.1.1)) (brn (I.eqb (@rdL a0A a0S x2.2.1 (I.nat (I.sub x2.1.2.2.1 (I.of .i64 1)))).2.2.2.2.2.1 (@rdL a0A a0S x2.1.1 (I.nat x2.1.2.1)).2.2.2.2.2.1) (brn (inB (I.sub x2.1.2.2.1 (I.of .i64 1)) (@a0K a0A x2.2.1)) (brn (inB x2.1.2.1 (@a0K a0A x2.1.1)) (brn (I.ltb (@rdL a0A a0S x2.1.1 (I.nat x2.1.2.1)).1 (@rdL a0A a0S x2.2.1 (I.nat (I.sub x2.1.2.2.1 (I.of .i64 1)))).1) (.again ((x2.1.1,(x2.1.2.1,((I.sub x2.1.2.2.1 (I.of .i64 1)),()))),(x2.2.1,()))) (.done (j1 ((x2.1.1,(x2.1.2.1,(x2.1.2.2.1,()))),(x2.2.1,()))))) (.done (.done none))) (.done (.done none))) (.done (j1 ((x2.1.1,(x2.1.2.1,(x2.1.2.2.1,()))),(x2.2.1,()))))) (.done (.done none))) (.done (.done none)))) (.done (.done none))) (.done (.done none))) (.done (j1 ((x2.1.1,(x2.1.2.1,(x2.1.2.2.1,()))),(x2.2.1,()))))) K ((x0.1.1,(x0.1.2.1,((I.ofNat .i64 (@a0K a0A x0.2.1)),()))),(x0.2.1,())))) (.done none)) (.done (some ((x0.2.1,()),())))) K ((a,(I.of .i64 0,())),([],()))
end Sym

/- The given functions as plain functions, as the printer told them. -/
namespace Sym
open Go
abbrev a0E:Type:=(I .u64)×(U×Unit)
noncomputable abbrev a3G:a0E:=((I.of .u64 0),(Z_U,()))
noncomputable section
def a7Y (K:Nat) (x:(⟨[.pl tY1],[]⟩:Tm).D):Option (⟨[.pl .bool],[]⟩:Tm).D :=
 let a:a0A:=x.1.1
 optF none (a0C K ((a.2.1,()),())) fun y0=>optF none (a0C K ((a.2.2.2.2.1,()),())) fun y1=>optF none (a1M K ((y0.1.1,(y1.1.1,())),())) fun y2=>optF none (a0C K ((a.2.2.1,()),())) fun y3=>optF none (a0C K ((a.2.2.2.1,()),())) fun y4=>optF none (a1M K ((y3.1.1,(y4.1.1,())),())) fun y5=>brn (I.neb a.1 (I.of .u64 0)) (optF none (a2X K ((y2.1.1,(y5.1.1,())),())) fun y6=>brn (I.eqb y6.1.1 (I.of .i64 0)) (optF none (a2M K ((a.2.1,()),())) fun y7=>some (((Ty.eqb .bool (I.eqb a.2.2.2.2.2.1 (I.of .u64 0)) y7.1.1),()),())) (some ((false,()),()))) (some ((false,()),()))
def a4I (K:Nat) (x:(⟨[.pl (.sl tY1)],[]⟩:Tm).D):Option (⟨[.pl .bool],[]⟩:Tm).D :=
 let a:(List a0A):=x.1.1
 brn (I.ltb (I.of .i64 64) (I.ofNat .i64 (@a0K a0A a))) (some ((false,()),())) (iter none (fun x0=>brn (I.ltb x0.1.2.1 (I.ofNat .i64 (@a0K a0A x0.1.1))) (brn (inB x0.1.2.1 (@a0K a0A x0.1.1)) (optF (.done none) (a7Y K (((@rdL a0A a0S x0.1.1 (I.nat x0.1.2.1)),()),())) fun y1=>brn (a6O y1.1.1) (.done (some ((false,()),()))) (brn (I.ltb (I.of .i64 0) x0.1.2.1) (brn (inB x0.1.2.1 (@a0K a0A x0.1.1)) (brn (inB (I.sub x0.1.2.1 (I.of .i64 1)) (@a0K a0A x0.1.1)) (brn (I.leb (@rdL a0A a0S x0.1.1 (I.nat x0.1.2.1)).1 (@rdL a0A a0S x0.1.1 (I.nat (I.sub x0.1.2.1 (I.of .i64 1)))).1) (.done (some ((false,()),()))) (.again ((x0.1.1,((I.add x0.1.2.1 (I.of .i64 1)),())),()))) (.done none)) (.done none)) (.again ((x0.1.1,((I.add x0.1.2.1 (I.of .i64 1)),())),())))) (.done none)) (.done (some ((true,()),())))) K ((a,(I.of .i64 0,())),()))
def a7E (K:Nat) (x:(⟨[.pl (.sl tY1),.pl (.int .u64)],[]⟩:Tm).D):Option (⟨[.pl (.int .i64)],[]⟩:Tm).D :=
 let a:(List a0A):=x.1.1
 let b:(I .u64):=x.1.2.1
 iter none (fun x0=>brn (I.ltb x0.1.2.2.1 (I.ofNat .i64 (@a0K a0A x0.1.1))) (brn (inB x0.1.2.2.1 (@a0K a0A x0.1.1)) (brn (I.eqb (@rdL a0A a0S x0.1.1 (I.nat x0.1.2.2.1)).1 x0.1.2.1) (.done (some ((x0.1.2.2.1,()),()))) (.again ((x0.1.1,(x0.1.2.1,((I.add x0.1.2.2.1 (I.of .i64 1)),()))),()))) (.done none)) (.done (some (((I.of .i64 (-1)),()),())))) K ((a,(b,(I.of .i64 0,()))),())
def b5M (K:Nat) (x:(⟨[.pl (.sl tY1),.pl (.int .u64)],[]⟩:Tm).D):Option (⟨[.pl (.sl tY1),.pl (.int .i64)],[]⟩:Tm).D :=
 let a:(List a0A):=x.1.1
 let b:(I .u64):=x.1.2.1
 jn (fun (x0:(((List a0A)×((I .u64)×Unit))×Unit))=>optF none (a7E K ((x0.1.1,(x0.1.2.1,())),())) fun y1=>brn (I.leb (I.of .i64 0) y1.1.1) (some (([],(I.of .i64 9,())),())) (brn (I.leb (I.of .i64 64) (I.ofNat .i64 (@a0K a0A x0.1.1))) (some (([],(I.of .i64 7,())),())) (iter none (fun x2=>brn (I.ltb x2.1.2.2.2.1 (I.ofNat .i64 (@a0K a0A x2.1.1))) (jn (fun (x3:(((List a0A)×((I .u64)×(Bool×((I .i64)×(Bool×Unit)))))×((List a0A)×Unit)))=>brn x3.1.2.2.2.2.1 (brn (a1D (@a0K a0A (@a2C a0A x3.2.1 ((x3.1.2.1,(Z_U,(Z_U,(Z_U,(Z_U,(I.of .u64 0,()))))))::[])))) (brn (inB x3.1.2.2.2.1 (@a0K a0A x3.1.1)) (brn (a1D (@a0K a0A (@a2C a0A (@a2C a0A x3.2.1 ((x3.1.2.1,(Z_U,(Z_U,(Z_U,(Z_U,(I.of .u64 0,()))))))::[])) ((@rdL a0A a0S x3.1.1 (I.nat x3.1.2.2.2.1))::[])))) (.again ((x3.1.1,(x3.1.2.1,(true,((I.add x3.1.2.2.2.1 (I.of .i64 1)),())))),((@a2C a0A (@a2C a0A x3.2.1 ((x3.1.2.1,(Z_U,(Z_U,(Z_U,(Z_U,(I.of .u64 0,()))))))::[])) ((@rdL a0A a0S x3.1.1 (I.nat x3.1.2.2.2.1))::[])),()))) (.done none)) (.done none)) (.done none)) (brn (inB x3.1.2.2.2.1 (@a0K a0A x3.1.1)) (brn (a1D (@a0K a0A (@a2C a0A x3.2.1 ((@rdL a0A a0S x3.1.1 (I.nat x3.1.2.2.2.1))::[])))) (.again ((x3.1.1,(x3.1.2.1,(x3.1.2.2.1,((I.add x3.1.2.2.2.1 (I.of .i64 1)),())))),((@a2C a0A x3.2.1 ((@rdL a0A a0S x3.1.1 (I.nat x3.1.2.2.2.1))::[])),()))) (.done none)) (.done none))) fun j3=>brn (a6O x2.1.2.2.1) (brn (inB x2.1.2.2.2.1 (@a0K a0A x2.1.1)) (j3 ((x2.1.1,(x2.1.2.1,(x2.1.2.2.1,(x2.1.2.2.2.1,((I.ltb x2.1.2.1 (@rdL a0A a0S x2.1.1 (I.nat x2.1.2.2.2.1)).1),()))))),(x2.2.1,()))) (.done none)) (j3 ((x2.1.1,(x2.1.2.1,(x2.1.2.2.1,(x2.1.2.2.2.1,(false,()))))),(x2.2.1,())))) (.done (brn (a6O x2.1.2.2.1) (brn (a1D (@a0K a0A (@a2C a0A x2.2.1 ((x2.1.2.1,(Z_U,(Z_U,(Z_U,(Z_U,(I.of .u64 0,()))))))::[])))) (some (((@a2C a0A x2.2.1 ((x2.1.2.1,(Z_U,(Z_U,(Z_U,(Z_U,(I.of .u64 0,()))))))::[])),(I.of .i64 0,())),())) none) (some ((x2.2.1,(I.of .i64 0,())),()))))) K ((x0.1.1,(x0.1.2.1,(false,(I.of .i64 0,())))),([],()))))) fun j0=>optF none (a4I K ((a,()),())) fun y1=>brn (a6O y1.1.1) (some (([],(I.of .i64 2,())),())) (brn (I.eqb b (I.of .u64 0)) (some (([],(I.of .i64 2,())),())) (j0 ((a,(b,())),())))
def a5J (K:Nat) (x:(⟨[.pl (.arr 4 (.int .u64)),.pl (.arr 4 (.int .u64))],[]⟩:Tm).D):Option (⟨[.pl (.arr 4 (.int .u64)),.pl (.int .i64)],[]⟩:Tm).D :=
 let a:U:=x.1.1
 let b:U:=x.1.2.1
 optF none (a0C K ((a,()),())) fun y0=>optF none (a0C K ((b,()),())) fun y1=>optF none (a2X K ((y0.1.1,(y1.1.1,())),())) fun y2=>brn (I.ltb y2.1.1 (I.of .i64 0)) (some ((Z_U,(I.of .i64 4,())),())) (optF none (a2Q K ((y0.1.1,(y1.1.1,())),())) fun y3=>optF none (a0P K ((y3.1.1,()),())) fun y4=>some ((y4.1.1,(I.of .i64 0,())),()))
def a7Z (K:Nat) (x:(⟨[.pl (.arr 4 (.int .u64)),.pl (.arr 4 (.int .u64))],[]⟩:Tm).D):Option (⟨[.pl (.arr 4 (.int .u64)),.pl (.int .i64)],[]⟩:Tm).D :=
 let a:U:=x.1.1
 let b:U:=x.1.2.1
 optF none (a0C K ((a,()),())) fun y0=>optF none (a0C K ((b,()),())) fun y1=>optF none (a1M K ((y0.1.1,(y1.1.1,())),())) fun y2=>optF none (a2O K ((y2.1.1,()),())) fun y3=>some ((y3.1.1,(y3.1.2.1,())),())
def b1I (K:Nat) (x:(⟨[.pl (.sl tY1),.pl (.int .u64),.pl (.arr 4 (.int .u64))],[]⟩:Tm).D):Option (⟨[.pl (.sl tY1),.pl (.int .i64)],[]⟩:Tm).D :=
 let a:(List a0A):=x.1.1
 let b:(I .u64):=x.1.2.1
 let c:U:=x.1.2.2.1
 optF none (a4I K ((a,()),())) fun y0=>brn (a6O y0.1.1) (some (([],(I.of .i64 2,())),())) (optF none (a7E K ((a,(b,())),())) fun y1=>brn (I.ltb y1.1.1 (I.of .i64 0)) (some (([],(I.of .i64 8,())),())) (brn (a1D (@a0K a0A (@a2C a0A [] a))) (brn (inB y1.1.1 (@a0K a0A (@a2C a0A [] a))) (optF none (a5J K (((@rdL a0A a0S (@a2C a0A [] a) (I.nat y1.1.1)).2.1,(c,())),())) fun y2=>brn (I.neb y2.1.2.1 (I.of .i64 0)) (some (([],(I.of .i64 10,())),())) (optF none (a7Z K (((@rdL a0A a0S (@a2C a0A [] a) (I.nat y1.1.1)).2.2.2.2.1,(c,())),())) fun y3=>brn (I.neb y3.1.2.1 (I.of .i64 0)) (some (([],(y3.1.2.1,())),())) (optF none (a2M K ((y2.1.1,()),())) fun y4=>brn y4.1.1 (some (((@pw a0A a0S (fun p0=>(p0.1,(p0.2.1,(p0.2.2.1,(p0.2.2.2.1,(p0.2.2.2.2.1,(I.of .u64 0,p0.2.2.2.2.2.2))))))) (I.nat y1.1.1) (@pw a0A a0S (fun p0=>(p0.1,(p0.2.1,(p0.2.2.1,(p0.2.2.2.1,(y3.1.1,p0.2.2.2.2.2)))))) (I.nat y1.1.1) (@pw a0A a0S (fun p0=>(p0.1,(y2.1.1,p0.2.2))) (I.nat y1.1.1) (@a2C a0A [] a)))),(I.of .i64 0,())),())) (some (((@pw a0A a0S (fun p0=>(p0.1,(p0.2.1,(p0.2.2.1,(p0.2.2.2.1,(y3.1.1,p0.2.2.2.2.2)))))) (I.nat y1.1.1) (@pw a0A a0S (fun p0=>(p0.1,(y2.1.1,p0.2.2))) (I.nat y1.1.1) (@a2C a0A [] a))),(I.of .i64 0,())),()))))) none) none))
def b1E (K:Nat) (x:(⟨[.pl (.sl tY1),.pl (.int .u64),.pl (.arr 4 (.int .u64)),.pl (.arr 4 (.int .u64)),.pl (.int .u64)],[]⟩:Tm).D):Option (⟨[.pl (.sl tY1),.pl (.int .i64)],[]⟩:Tm).D :=
 let a:(List a0A):=x.1.1
 let b:(I .u64):=x.1.2.1
 let c:U:=x.1.2.2.1
 let d:U:=x.1.2.2.2.1
 let e:(I .u64):=x.1.2.2.2.2.1
 jn (fun (x0:(((List a0A)×((I .u64)×((I .u64)×Unit)))×(U×(U×Unit))))=>optF none (a7E K ((x0.1.1,(x0.1.2.1,())),())) fun y1=>brn (I.ltb y1.1.1 (I.of .i64 0)) (some (([],(I.of .i64 8,())),())) (brn (a1D (@a0K a0A (@a2C a0A [] x0.1.1))) (brn (inB y1.1.1 (@a0K a0A (@a2C a0A [] x0.1.1))) (optF none (a0C K (((@rdL a0A a0S (@a2C a0A [] x0.1.1) (I.nat y1.1.1)).2.1,()),())) fun y2=>optF none (a0C K ((x0.2.1,()),())) fun y3=>optF none (a0C K ((x0.2.2.1,()),())) fun y4=>optF none (a1M K ((y3.1.1,(y4.1.1,())),())) fun y5=>optF none (a1M K ((y2.1.1,(y5.1.1,())),())) fun y6=>optF none (a0C K (((@rdL a0A a0S (@a2C a0A [] x0.1.1) (I.nat y1.1.1)).2.2.1,()),())) fun y7=>optF none (a0C K ((x0.2.1,()),())) fun y8=>optF none (a1M K ((y7.1.1,(y8.1.1,())),())) fun y9=>optF none (a0C K (((@rdL a0A a0S (@a2C a0A [] x0.1.1) (I.nat y1.1.1)).2.2.2.1,()),())) fun y10=>optF none (a0C K ((x0.2.2.1,()),())) fun y11=>optF none (a1M K ((y10.1.1,(y11.1.1,())),())) fun y12=>optF none (a2F K ((y6.1.1,()),())) fun y13=>brn (a6O y13.1.1) (some (([],(I.of .i64 4,())),())) (optF none (a2F K ((y9.1.1,()),())) fun y14=>brn (a6O y14.1.1) (some (([],(I.of .i64 4,())),())) (optF none (a2F K ((y12.1.1,()),())) fun y15=>brn (a6O y15.1.1) (some (([],(I.of .i64 4,())),())) (optF none (a2M K (((@rdL a0A a0S (@a2C a0A [] x0.1.1) (I.nat y1.1.1)).2.1,()),())) fun y16=>brn y16.1.1 (brn (I.ltb (I.of .i64 0) (I.ofNat .i64 (@a0K (I .i64) y6.1.1))) (optF none (a0P K ((y6.1.1,()),())) fun y17=>optF none (a0P K ((y9.1.1,()),())) fun y18=>optF none (a0P K ((y12.1.1,()),())) fun y19=>some (((@pw a0A a0S (fun p0=>(p0.1,(p0.2.1,(p0.2.2.1,(y19.1.1,p0.2.2.2.2))))) (I.nat y1.1.1) (@pw a0A a0S (fun p0=>(p0.1,(p0.2.1,(y18.1.1,p0.2.2.2)))) (I.nat y1.1.1) (@pw a0A a0S (fun p0=>(p0.1,(y17.1.1,p0.2.2))) (I.nat y1.1.1) (@pw a0A a0S (fun p0=>(p0.1,(p0.2.1,(p0.2.2.1,(p0.2.2.2.1,(p0.2.2.2.2.1,(x0.1.2.2.1,p0.2.2.2.2.2.2))))))) (I.nat y1.1.1) (@a2C a0A [] x0.1.1))))),(I.of .i64 0,())),())) (optF none (a0P K ((y6.1.1,()),())) fun y17=>optF none (a0P K ((y9.1.1,()),())) fun y18=>optF none (a0P K ((y12.1.1,()),())) fun y19=>some (((@pw a0A a0S (fun p0=>(p0.1,(p0.2.1,(p0.2.2.1,(y19.1.1,p0.2.2.2.2))))) (I.nat y1.1.1) (@pw a0A a0S (fun p0=>(p0.1,(p0.2.1,(y18.1.1,p0.2.2.2)))) (I.nat y1.1.1) (@pw a0A a0S (fun p0=>(p0.1,(y17.1.1,p0.2.2))) (I.nat y1.1.1) (@a2C a0A [] x0.1.1)))),(I.of .i64 0,())),()))) (optF none (a0P K ((y6.1.1,()),())) fun y17=>optF none (a0P K ((y9.1.1,()),())) fun y18=>optF none (a0P K ((y12.1.1,()),())) fun y19=>some (((@pw a0A a0S (fun p0=>(p0.1,(p0.2.1,(p0.2.2.1,(y19.1.1,p0.2.2.2.2))))) (I.nat y1.1.1) (@pw a0A a0S (fun p0=>(p0.1,(p0.2.1,(y18.1.1,p0.2.2.2)))) (I.nat y1.1.1) (@pw a0A a0S (fun p0=>(p0.1,(y17.1.1,p0.2.2))) (I.nat y1.1.1) (@a2C a0A [] x0.1.1)))),(I.of .i64 0,())),())))))) none) none)) fun j0=>optF none (a4I K ((a,()),())) fun y1=>brn (a6O y1.1.1) (some (([],(I.of .i64 2,())),())) (brn (I.eqb e (I.of .u64 0)) (some (([],(I.of .i64 2,())),())) (j0 ((a,(b,(e,()))),(c,(d,())))))
def b4A (K:Nat) (x:(⟨[.pl (.sl tY1),.pl (.arr 4 (.int .u64))],[]⟩:Tm).D):Option (⟨[.pl (.sl tY2),.pl (.int .i64)],[]⟩:Tm).D :=
 let a:(List a0A):=x.1.1
 let b:U:=x.1.2.1
 optF none (a4I K ((a,()),())) fun y0=>brn (a6O y0.1.1) (some (([],(I.of .i64 2,())),())) (optF none (b1S K ((a,()),())) fun y1=>optF none (a0C K ((b,()),())) fun y2=>iter none (fun x3=>jn (fun (x4:(((List a0A)×((List (I .i64))×((I .i64)×((List (I .i64))×((I .i64)×(Bool×Unit))))))×((List a0E)×Unit)))=>brn (inB x4.1.2.2.1 (@a0K a0A x4.1.1)) (optF (.done none) (a0C K (((@rdL a0A a0S x4.1.1 (I.nat x4.1.2.2.1)).2.1,()),())) fun y5=>optF (.done none) (a4N K ((x4.1.2.1,(y5.1.1,())),())) fun y6=>brn (inB x4.1.2.2.1 (@a0K a0A x4.1.1)) (optF (.done none) (a0P K ((y6.1.1,()),())) fun y7=>brn (a1D (@a0K a0E (@a2C a0E x4.2.1 (((@rdL a0A a0S x4.1.1 (I.nat x4.1.2.2.1)).1,(y7.1.1,()))::[])))) (optF (.done none) (a2Q K ((x4.1.2.1,(y6.1.1,())),())) fun y8=>.again ((x4.1.1,(y8.1.1,((I.add x4.1.2.2.1 (I.of .i64 1)),()))),((@a2C a0E x4.2.1 (((@rdL a0A a0S x4.1.1 (I.nat x4.1.2.2.1)).1,(y7.1.1,()))::[])),()))) (.done none)) (.done none)) (.done none)) fun j4=>brn (I.ltb x3.1.2.2.1 (I.ofNat .i64 (@a0K a0A x3.1.1))) (brn (I.ltb (I.of .i64 0) (I.ofNat .i64 (@a0K (I .i64) x3.1.2.1))) (j4 ((x3.1.1,(x3.1.2.1,(x3.1.2.2.1,(x3.1.2.1,((I.ofNat .i64 (@a0K (I .i64) x3.1.2.1)),((I.ltb (I.of .i64 0) (I.ofNat .i64 (@a0K (I .i64) x3.1.2.1))),())))))),(x3.2.1,()))) (.done (some ((x3.2.1,(I.of .i64 0,())),())))) (.done (some ((x3.2.1,(I.of .i64 0,())),())))) K ((y1.1.1,(y2.1.1,(I.of .i64 0,()))),([],())))
def a8L (K:Nat) (x:(⟨[.pl (.sl tY1)],[]⟩:Tm).D):Option (⟨[.whole 0],[.row tY1]⟩:Tm).D :=
 let a:(List a0A):=x.1.1
 brn (c6W (@a0K a0A a)) (both none (some ((),([],()))) (brn (a1D (@a0K a0A (@a2C a0A [] a))) (some ((),((@a2C a0A [] a),()))) none)) (brn (a1D (@a0K a0A (@a2C a0A [] a))) (some ((),((@a2C a0A [] a),()))) none)
def b1T (K:Nat) (x:(⟨[.pl (.sl tY2)],[]⟩:Tm).D):Option (⟨[.pl (.arr 4 (.int .u64)),.pl (.int .i64)],[]⟩:Tm).D :=
 let a:(List a0E):=x.1.1
 iter none (fun x0=>brn (I.ltb x0.1.2.2.1 (I.ofNat .i64 (@a0K a0E x0.1.1))) (brn (inB x0.1.2.2.1 (@a0K a0E x0.1.1)) (optF (.done none) (a0C K (((@rdL a0E a3G x0.1.1 (I.nat x0.1.2.2.1)).2.1,()),())) fun y1=>optF (.done none) (a1M K ((x0.1.2.1,(y1.1.1,())),())) fun y2=>.again ((x0.1.1,(y2.1.1,((I.add x0.1.2.2.1 (I.of .i64 1)),()))),(x0.2.1,()))) (.done none)) (.done (optF none (a2O K ((x0.1.2.1,()),())) fun y1=>some ((y1.1.1,(y1.1.2.1,())),())))) K ((a,([],(I.of .i64 0,()))),(Z_U,()))
def b2U (K:Nat) (x:(⟨[.pl (.sl tY1),.pl (.sl tY2)],[]⟩:Tm).D):Option (⟨[.pl (.sl tY1),.pl (.int .i64)],[]⟩:Tm).D :=
 let a:(List a0A):=x.1.1
 let b:(List a0E):=x.1.2.1
 brn (a1D (@a0K a0A (@a2C a0A [] a))) (iter none (fun x0=>brn (I.ltb x0.1.2.2.1 (I.ofNat .i64 (@a0K a0E x0.1.1))) (brn (inB x0.1.2.2.1 (@a0K a0E x0.1.1)) (brn (inB x0.1.2.2.1 (@a0K a0E x0.1.1)) (optF (.done none) (b1I K ((x0.1.2.1,((@rdL a0E a3G x0.1.1 (I.nat x0.1.2.2.1)).1,((@rdL a0E a3G x0.1.1 (I.nat x0.1.2.2.1)).2.1,()))),())) fun y1=>brn (I.neb y1.1.2.1 (I.of .i64 0)) (.done (some (([],(y1.1.2.1,())),()))) (.again ((x0.1.1,(y1.1.1,((I.add x0.1.2.2.1 (I.of .i64 1)),()))),()))) (.done none)) (.done none)) (.done (some ((x0.1.2.1,(I.of .i64 0,())),())))) K ((b,((@a2C a0A [] a),(I.of .i64 0,()))),())) none
end
end Sym

/- slices.Insert at a slice of posters, as a plain function. -/
namespace Sym
open Go
end Sym

/- The given functions as plain functions, as the printer told them. -/
namespace Sym
open Go
noncomputable def a5H:List (I .u8):=d9K [0,1,2,2,3,3,3,3,4,4,4,4,4,4,4,4,5,5,5,5,5,5,5,5,5,5,5,5,5,5,5,5,6,6,6,6,6,6,6,6,6,6,6,6,6,6,6,6,6,6,6,6,6,6,6,6,6,6,6,6,6,6,6,6,7,7,7,7,7,7,7,7,7,7,7,7,7,7,7,7,7,7,7,7,7,7,7,7,7,7,7,7,7,7,7,7,7,7,7,7,7,7,7,7,7,7,7,7,7,7,7,7,7,7,7,7,7,7,7,7,7,7,7,7,7,7,7,7,8,8,8,8,8,8,8,8,8,8,8,8,8,8,8,8,8,8,8,8,8,8,8,8,8,8,8,8,8,8,8,8,8,8,8,8,8,8,8,8,8,8,8,8,8,8,8,8,8,8,8,8,8,8,8,8,8,8,8,8,8,8,8,8,8,8,8,8,8,8,8,8,8,8,8,8,8,8,8,8,8,8,8,8,8,8,8,8,8,8,8,8,8,8,8,8,8,8,8,8,8,8,8,8,8,8,8,8,8,8,8,8,8,8,8,8,8,8,8,8,8,8,8,8,8,8,8,8]
abbrev c2Q:Type:=Bool×(U×Unit)
noncomputable abbrev a2T:c2Q:=(false,(Z_U,()))
abbrev b6E:Type:=(I .u64)×a0E
abbrev d3X:Type:=(I .u64)×(U×((List a0E)×Unit))
abbrev a2Y:Type:=(I .u64)×((I .u64)×((I .u64)×(U×((I .u64)×(U×((I .u64)×(U×U)))))))
noncomputable abbrev a6D:a2Y:=((I.of .u64 0),((I.of .u64 0),((I.of .u64 0),(Z_U,((I.of .u64 0),(Z_U,((I.of .u64 0),(Z_U,Z_U))))))))
abbrev a6P:Type:=U×((I .u64)×((I .u64)×((I .u64)×(c2Q×((List a0A)×Unit)))))
abbrev a1Y:Ty:=.cons .bool (.cons a1K .nil)
abbrev a0U:Ty:=.cons (.int .u64) (.cons a1K .nil)
abbrev a1L:Ty:=.cons (.int .u64) a0U
abbrev a9V:Ty:=.cons (.int .i64) (.cons (.int .i64) (.cons .bool (.cons (.int .u8) .nil)))
abbrev d3P:Ty:=.cons (.int .u64) (.cons a1K (.cons (.sl a0U) .nil))
abbrev a1C:Ty:=.cons (.int .u64) (.cons a1K (.cons a1K (.cons a1K (.cons a1K (.cons (.int .u64) .nil)))))
abbrev a0G:Ty:=.cons (.int .u64) (.cons (.int .u64) (.cons (.int .u64) (.cons a1K (.cons (.int .u64) (.cons a1K (.cons (.int .u64) (.cons a1K (.cons (.int .u64) (.cons (.int .u64) (.cons (.int .u64) (.cons (.int .u64) .nil)))))))))))
abbrev a0X:Ty:=.cons a1K (.cons (.int .u64) (.cons (.int .u64) (.cons (.int .u64) (.cons a1Y (.cons (.sl a1C) .nil)))))
noncomputable def c8P (K:Nat) (x:(⟨[],[]⟩:Tm).D):Option (⟨[.pl a0X],[]⟩:Tm).D :=
 optF none (a1P K ((I.of .u64 1000000000,()),())) fun y0=>some (((y0.1.1,(I.of .u64 0,(I.of .u64 0,(I.of .u64 0,(a2T,([],())))))),()),())
noncomputable def b0V (K:Nat) (x:(⟨[.pl (.int .u64)],[]⟩:Tm).D):Option (⟨[.pl (.int .i64)],[]⟩:Tm).D :=
 let a:(I .u64):=x.1.1
 jn (fun (x0:(((I .u64)×((I .i64)×Unit))×Unit))=>jn (fun (x1:(((I .u64)×((I .i64)×Unit))×Unit))=>brn (I.leb (I.of .u64 256) x1.1.1) (brn (inB (I.conv (k:=.u64) .u8 (I.shr x1.1.1 (I.of .u64 8))) 256) (some (((I.add (I.add x1.1.2.1 (I.of .i64 8)) (I.conv (k:=.u8) .i64 (@rdL (I .u8) (I.of .u8 0) a5H (I.nat (I.conv (k:=.u64) .u8 (I.shr x1.1.1 (I.of .u64 8))))))),()),())) none) (brn (inB (I.conv (k:=.u64) .u8 x1.1.1) 256) (some (((I.add x1.1.2.1 (I.conv (k:=.u8) .i64 (@rdL (I .u8) (I.of .u8 0) a5H (I.nat (I.conv (k:=.u64) .u8 x1.1.1))))),()),())) none)) fun j1=>brn (I.leb (I.of .u64 65536) x0.1.1) (j1 (((I.shr x0.1.1 (I.of .u64 16)),((I.add x0.1.2.1 (I.of .i64 16)),())),())) (j1 ((x0.1.1,(x0.1.2.1,())),()))) fun j0=>brn (I.leb (I.of .u64 4294967296) a) (j0 (((I.shr a (I.of .u64 32)),(I.of .i64 32,())),())) (j0 ((a,(I.of .i64 0,())),()))
noncomputable def b8H (K:Nat) (x:(⟨[.pl a1K],[]⟩:Tm).D):Option (⟨[.pl (.int .i64)],[]⟩:Tm).D :=
 let a:U:=x.1.1
 iter none (fun x0=>brn (I.leb (I.of .i64 0) x0.1.1) (brn (inB x0.1.1 4) (brn (I.neb (@Arr.sel (I .u64) (I.of .u64 0) 4 x0.2.1 (I.nat x0.1.1)) (I.of .u64 0)) (brn (inB x0.1.1 4) (optF (.done none) (b0V K (((@Arr.sel (I .u64) (I.of .u64 0) 4 x0.2.1 (I.nat x0.1.1)),()),())) fun y1=>.done (some (((I.add (I.mul (I.of .i64 64) x0.1.1) y1.1.1),()),()))) (.done none)) (.again (((I.sub x0.1.1 (I.of .i64 1)),()),(x0.2.1,())))) (.done none)) (.done (some ((I.of .i64 0,()),())))) K ((I.of .i64 3,()),(a,()))
end Sym

/- The given functions as plain functions, as the printer told them. -/
namespace Sym
open Go
abbrev a6X:Type:=(I .u64)×(U×((List a0E)×Unit))
abbrev a1F:Ty:=.cons .bool (.cons (.sl (.int .i64)) .nil)
noncomputable def a8F (K:Nat) (x:(⟨[.pl a0X],[]⟩:Tm).D):Option (⟨[.pl .bool],[]⟩:Tm).D :=
 let a:a6P:=x.1.1
 jn (fun (x0:(Unit×(a6P×Unit)))=>iter none (fun x1=>brn (I.ltb x1.1.1 (I.ofNat .i64 (@a0K a0A x1.2.1.2.2.2.2.2.1))) (brn (inB x1.1.1 (@a0K a0A x1.2.1.2.2.2.2.2.1)) (brn (I.ltb x1.2.1.2.2.2.1 (@rdL a0A a0S x1.2.1.2.2.2.2.2.1 (I.nat x1.1.1)).2.2.2.2.2.1) (.done (some ((false,()),()))) (.again (((I.add x1.1.1 (I.of .i64 1)),()),(x1.2.1,())))) (.done none)) (.done (some ((true,()),())))) K ((I.of .i64 0,()),(x0.2.1,()))) fun j0=>optF none (a4I K ((a.2.2.2.2.2.1,()),())) fun y1=>brn (a6O y1.1.1) (some ((false,()),())) (optF none (a5A K ((a.2.2.2.2.1,()),())) fun y2=>brn (a6O y2.1.1) (some ((false,()),())) (j0 ((),(a,()))))
noncomputable def a9C (K:Nat) (x:(⟨[.pl a0X,.pl (.int .u64)],[]⟩:Tm).D):Option (⟨[.pl a0X,.pl (.int .i64)],[]⟩:Tm).D :=
 let a:a6P:=x.1.1
 let b:(I .u64):=x.1.2.1
 optF none (a8F K ((a,()),())) fun y0=>brn (a6O y0.1.1) (some (((Z_U,(I.of .u64 0,(I.of .u64 0,(I.of .u64 0,(a2T,([],())))))),(I.of .i64 2,())),())) (optF none (b5M K ((a.2.2.2.2.2.1,(b,())),())) fun y1=>brn (I.neb y1.1.2.1 (I.of .i64 0)) (some (((Z_U,(I.of .u64 0,(I.of .u64 0,(I.of .u64 0,(a2T,([],())))))),(y1.1.2.1,())),())) (some (((a.1,(a.2.1,(a.2.2.1,(a.2.2.2.1,(a.2.2.2.2.1,(y1.1.1,a.2.2.2.2.2.2)))))),(I.of .i64 0,())),())))
noncomputable def b0B (K:Nat) (x:(⟨[.pl a0X,.pl (.int .u64)],[]⟩:Tm).D):Option (⟨[.pl a0X,.pl (.int .i64)],[]⟩:Tm).D :=
 let a:a6P:=x.1.1
 let b:(I .u64):=x.1.2.1
 optF none (a8F K ((a,()),())) fun y0=>brn (a6O y0.1.1) (some (((Z_U,(I.of .u64 0,(I.of .u64 0,(I.of .u64 0,(a2T,([],())))))),(I.of .i64 2,())),())) (brn (I.ltb (I.add a.2.1 b) b) (some (((Z_U,(I.of .u64 0,(I.of .u64 0,(I.of .u64 0,(a2T,([],())))))),(I.of .i64 4,())),())) (brn (a1D (@a0K a0A (@a2C a0A [] a.2.2.2.2.2.1))) (some (((a.1,((I.add a.2.1 b),(a.2.2.1,(a.2.2.2.1,(a.2.2.2.2.1,((@a2C a0A [] a.2.2.2.2.2.1),a.2.2.2.2.2.2)))))),(I.of .i64 0,())),())) none))
noncomputable def b2Q (K:Nat) (x:(⟨[.pl a1K],[]⟩:Tm).D):Option (⟨[.pl (.int .i64)],[]⟩:Tm).D :=
 let a:U:=x.1.1
 iter none (fun x0=>brn (I.ltb x0.1.2.1 (I.of .i64 256)) (brn (inB (I.quo x0.1.2.1 (I.of .i64 64)) 4) (brn (I.nn (I.conv (k:=.i64) .u64 (I.rem x0.1.2.1 (I.of .i64 64)))) (brn (I.eqb (I.and (I.shr (@Arr.sel (I .u64) (I.of .u64 0) 4 x0.2.1 (I.nat (I.quo x0.1.2.1 (I.of .i64 64)))) (I.conv (k:=.i64) .u64 (I.rem x0.1.2.1 (I.of .i64 64)))) (I.of .u64 1)) (I.of .u64 1)) (.again (((I.add x0.1.2.1 (I.of .i64 1)),((I.add x0.1.2.1 (I.of .i64 1)),())),(x0.2.1,()))) (.again ((x0.1.1,((I.add x0.1.2.1 (I.of .i64 1)),())),(x0.2.1,())))) (.done none)) (.done none)) (.done (some ((x0.1.1,()),())))) K ((I.of .i64 0,(I.of .i64 0,())),(a,()))
noncomputable def b2X (K:Nat) (x:(⟨[.pl a0X,.pl a0G,.pl a1L,.pl (.int .u64)],[]⟩:Tm).D):Option (⟨[.pl (.int .i64)],[]⟩:Tm).D :=
 let a:a6P:=x.1.1
 let b:a2Y:=x.1.2.1
 let c:b6E:=x.1.2.2.1
 let d:(I .u64):=x.1.2.2.2.1
 optF none (a8F K ((a,()),())) fun y0=>brn (a6O y0.1.1) (some ((I.of .i64 2,()),())) (optF none (a3S K ((b,()),())) fun y1=>brn (a6O y1.1.1) (some ((I.of .i64 15,()),())) (optF none (a7E K ((a.2.2.2.2.2.1,(c.1,())),())) fun y2=>brn (I.ltb y2.1.1 (I.of .i64 0)) (some ((I.of .i64 8,()),())) (jn (fun (x3:(Unit×(b6E×Unit)))=>optF none (b2Q K ((x3.2.1.2.2.1,()),())) fun y4=>brn (I.ltb (I.of .i64 128) y4.1.1) (some ((I.of .i64 2,()),())) (some ((I.of .i64 0,()),()))) fun j3=>brn (I.ltb c.2.1 a.2.2.1) (some ((I.of .i64 14,()),())) (brn (I.ltb d c.2.1) (some ((I.of .i64 14,()),())) (j3 ((),(c,())))))))
noncomputable def a9U (K:Nat) (x:(⟨[.pl (.int .u64),.pl (.int .u64),.pl (.int .u64),.pl (.int .u64)],[]⟩:Tm).D):Option (⟨[.pl (.int .u64),.pl (.int .i64)],[]⟩:Tm).D :=
 let a:(I .u64):=x.1.1
 let b:(I .u64):=x.1.2.1
 let c:(I .u64):=x.1.2.2.1
 let d:(I .u64):=x.1.2.2.2.1
 jn (fun (x0:(U×Unit))=>brn (I.eqb x0.1.2.2.2.1 x0.1.2.1) (some ((x0.1.1,(I.of .i64 0,())),())) (optF none (a0H K ((x0.1.1,()),())) fun y1=>optF none (a0H K (((I.sub x0.1.2.2.1 x0.1.2.1),()),())) fun y2=>optF none (a2A K ((y1.1.1,(y2.1.1,())),())) fun y3=>optF none (a0H K (((I.sub x0.1.2.2.2.1 x0.1.2.1),()),())) fun y4=>optF none (a3R K ((y3.1.1,(y4.1.1,())),())) fun y5=>optF none (a0P K ((y5.1.1,()),())) fun y6=>some ((y6.1.1.1,(I.of .i64 0,())),()))) fun j0=>brn (I.ltb c b) (some ((I.of .u64 0,(I.of .i64 14,())),())) (brn (I.ltb d c) (some ((I.of .u64 0,(I.of .i64 14,())),())) (j0 ((a,(b,(c,(d,())))),())))
noncomputable def b2Y (K:Nat) (x:(⟨[.pl a1K,.pl a1K],[]⟩:Tm).D):Option (⟨[.pl a1K,.pl (.int .i64)],[]⟩:Tm).D :=
 let a:U:=x.1.1
 let b:U:=x.1.2.1
 optF none (a0C K ((a,()),())) fun y0=>optF none (a0C K ((b,()),())) fun y1=>optF none (a2A K ((y0.1.1,(y1.1.1,())),())) fun y2=>optF none (a2O K ((y2.1.1,()),())) fun y3=>some ((y3.1.1,(y3.1.2.1,())),())
noncomputable def b0E (K:Nat) (x:(⟨[.pl (.sl a1C)],[]⟩:Tm).D):Option (⟨[.pl a1K,.pl (.int .i64)],[]⟩:Tm).D :=
 let a:(List a0A):=x.1.1
 optF none (a4I K ((a,()),())) fun y0=>brn (a6O y0.1.1) (some ((Z_U,(I.of .i64 2,())),())) (iter none (fun x1=>brn (I.ltb x1.1.2.2.1 (I.ofNat .i64 (@a0K a0A x1.1.1))) (brn (inB x1.1.2.2.1 (@a0K a0A x1.1.1)) (optF (.done none) (a0C K (((@rdL a0A a0S x1.1.1 (I.nat x1.1.2.2.1)).2.1,()),())) fun y2=>optF (.done none) (a1M K ((x1.1.2.1,(y2.1.1,())),())) fun y3=>.again ((x1.1.1,(y3.1.1,((I.add x1.1.2.2.1 (I.of .i64 1)),()))),(x1.2.1,()))) (.done none)) (.done (optF none (a2O K ((x1.1.2.1,()),())) fun y2=>some ((y2.1.1,(y2.1.2.1,())),())))) K ((a,([],(I.of .i64 0,()))),(Z_U,())))
noncomputable def b1G (K:Nat) (x:(⟨[.pl a0X,.pl a0G,.pl a1K,.pl a1L,.pl (.int .u64)],[]⟩:Tm).D):Option (⟨[.pl a0X,.pl d3P,.pl (.int .i64)],[]⟩:Tm).D :=
 let a:a6P:=x.1.1
 let b:a2Y:=x.1.2.1
 let c:U:=x.1.2.2.1
 let d:b6E:=x.1.2.2.2.1
 let e:(I .u64):=x.1.2.2.2.2.1
 optF none (b2X K ((a,(b,(d,(e,())))),())) fun y0=>brn (I.neb y0.1.1 (I.of .i64 0)) (some (((Z_U,(I.of .u64 0,(I.of .u64 0,(I.of .u64 0,(a2T,([],())))))),((I.of .u64 0,(Z_U,([],()))),(y0.1.1,()))),())) (optF none (a9U K ((a.2.1,(a.2.2.1,(d.2.1,(e,())))),())) fun y1=>optF none (b2Y K ((b.2.2.2.2.2.2.2.1,((y1.1.1,(I.of .u64 0,(I.of .u64 0,(I.of .u64 0,())))),())),())) fun y2=>jn (fun (x3:(Unit×(a6P×(a2Y×(U×(b6E×(a6P×(a6X×(a6X×(U×Unit))))))))))=>optF none (b1E K ((x3.2.1.2.2.2.2.2.1,(x3.2.2.2.2.1.1,(x3.2.2.2.2.1.2.2.1,(x3.2.2.2.2.2.2.2.2.1,((I.add x3.2.1.2.2.2.1 (I.of .u64 1)),()))))),())) fun y4=>brn (I.neb y4.1.2.1 (I.of .i64 0)) (some (((Z_U,(I.of .u64 0,(I.of .u64 0,(I.of .u64 0,(a2T,([],())))))),((I.of .u64 0,(Z_U,([],()))),(I.of .i64 4,()))),())) (optF none (b4A K ((y4.1.1,(x3.2.2.2.1,())),())) fun y5=>optF none (b2U K ((y4.1.1,(y5.1.1,())),())) fun y6=>brn (I.neb y6.1.2.1 (I.of .i64 0)) (some (((Z_U,(I.of .u64 0,(I.of .u64 0,(I.of .u64 0,(a2T,([],())))))),((I.of .u64 0,(Z_U,([],()))),(I.of .i64 4,()))),())) (optF none (b1T K ((y5.1.1,()),())) fun y7=>optF none (a5J K ((x3.2.2.2.1,(y7.1.1,())),())) fun y8=>optF none (b0E K ((y6.1.1,()),())) fun y9=>brn (I.neb y9.1.2.1 (I.of .i64 0)) (some (((Z_U,(I.of .u64 0,(I.of .u64 0,(I.of .u64 0,(a2T,([],())))))),((I.of .u64 0,(Z_U,([],()))),(I.of .i64 4,()))),())) (optF none (b5K K ((y8.1.1,(y9.1.1,())),())) fun y10=>jn (fun (x11:(((List a0A)×Unit)×(a6P×(b6E×(a6P×(a6X×(a6X×Unit)))))))=>some (((x11.2.1.1,((I.sub x11.2.1.2.1 x11.2.2.2.2.2.1.1),(x11.2.2.1.2.1,(x11.2.1.2.2.2.1,(x11.2.1.2.2.2.2.1,(x11.1.1,x11.2.1.2.2.2.2.2.2)))))),(x11.2.2.2.2.2.1,(I.of .i64 0,()))),())) fun j11=>brn (I.ltb (I.of .u64 0) x3.2.2.2.2.2.2.2.1.1) (optF none (b3V K ((x3.2.1.1,(y10.1.1,(x3.2.1.2.2.2.2.1,(x3.2.2.2.2.2.2.2.1.1,(x3.2.2.1,()))))),())) fun y12=>brn (I.neb y12.1.2.1 (I.of .i64 0)) (some (((Z_U,(I.of .u64 0,(I.of .u64 0,(I.of .u64 0,(a2T,([],())))))),((I.of .u64 0,(Z_U,([],()))),(I.of .i64 4,()))),())) (j11 ((y6.1.1,()),((y12.1.1,(x3.2.1.2.1,(x3.2.1.2.2.1,((I.add x3.2.1.2.2.2.1 (I.of .u64 1)),(y10.1.1,x3.2.1.2.2.2.2.2))))),(x3.2.2.2.2.1,(x3.2.2.2.2.2.1,(x3.2.2.2.2.2.2.1,((x3.2.2.2.2.2.2.2.1.1,(x3.2.2.2.2.2.2.2.1.2.1,(y5.1.1,x3.2.2.2.2.2.2.2.1.2.2.2))),())))))))) (j11 ((y6.1.1,()),((x3.2.1.1,(x3.2.1.2.1,(x3.2.1.2.2.1,((I.add x3.2.1.2.2.2.1 (I.of .u64 1)),x3.2.1.2.2.2.2)))),(x3.2.2.2.2.1,(x3.2.2.2.2.2.1,(x3.2.2.2.2.2.2.1,((x3.2.2.2.2.2.2.2.1.1,(x3.2.2.2.2.2.2.2.1.2.1,(y5.1.1,x3.2.2.2.2.2.2.2.1.2.2.2))),()))))))))))) fun j3=>brn (I.neb y2.1.2.1 (I.of .i64 0)) (some (((Z_U,(I.of .u64 0,(I.of .u64 0,(I.of .u64 0,(a2T,([],())))))),((I.of .u64 0,(Z_U,([],()))),(I.of .i64 4,()))),())) (brn (I.eqb (I.add a.2.2.2.1 (I.of .u64 1)) (I.of .u64 0)) (some (((Z_U,(I.of .u64 0,(I.of .u64 0,(I.of .u64 0,(a2T,([],())))))),((I.of .u64 0,(Z_U,([],()))),(I.of .i64 4,()))),())) (j3 ((),(a,(b,(c,(d,((Z_U,(I.of .u64 0,(I.of .u64 0,(I.of .u64 0,(a2T,([],())))))),((I.of .u64 0,(Z_U,([],()))),((y1.1.1,(y2.1.1,([],()))),(y2.1.1,()))))))))))))
noncomputable def c0G (K:Nat) (x:(⟨[],[]⟩:Tm).D):Option (⟨[.pl a0X],[]⟩:Tm).D :=
 some ((((I.of .u64 1000000000,(I.of .u64 0,(I.of .u64 0,(I.of .u64 0,())))),(I.of .u64 0,(I.of .u64 0,(I.of .u64 0,(a2T,([],())))))),()),())
end Sym
