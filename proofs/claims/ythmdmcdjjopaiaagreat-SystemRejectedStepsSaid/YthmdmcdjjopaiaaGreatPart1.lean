/- The types of a symbolic evaluator of the machine's code: what a Go value of each kind is in plain Lean, and how its cells lie. -/
import Derived.Orders
import Derived.Below
import Derived.KernelRfl
import Derived.Laws.AppendOwn
import Derived.Laws.Entries
import Derived.Calls
import Derived.Laws.IdiomCopy
import Derived.Laws.StructEq
import Derived.ChangeKeysEq
import Derived.Great.BuildSlice
import Derived.Laws.Strings
import Derived.Laws.Concat
import Derived.Laws.Pointers
namespace Sym
open Go
theorem wrap_signed (M n:Int) (hM:0 < M):(if (if n % (2 * M) ≥ M then n % (2 * M) - 2 * M else n % (2 * M)) % (2 * M) ≥ M then (if n % (2 * M) ≥ M then n % (2 * M) - 2 * M else n % (2 * M)) % (2 * M) - 2 * M else (if n % (2 * M) ≥ M then n % (2 * M) - 2 * M else n % (2 * M)) % (2 * M)) = if n % (2 * M) ≥ M then n % (2 * M) - 2 * M else n % (2 * M):=by
 have e:(if n % (2 * M) ≥ M then n % (2 * M) - 2 * M else n % (2 * M)) % (2 * M) = n % (2 * M):=by
  split
  ·
   rw [Int.sub_emod_right,Int.emod_emod]
  ·
   rw [Int.emod_emod]
 rw [e]
theorem wrap_signed_at {k:IntKind} (M n:Int) (hM:0 < M) (hs:k.signed = true) (h2:(2 ^ k.bits:Int) = 2 * M) (h1:(2 ^ (k.bits - 1):Int) = M):k.wrap (k.wrap n) = k.wrap n:=by
 have:=wrap_signed M n hM
 simp only [IntKind.wrap,hs,h1,h2,Bool.true_and,decide_eq_true_eq]
 exact this
theorem wrap_wrap (k:IntKind) (n:Int):k.wrap (k.wrap n) = k.wrap n:=by
 cases k
 case i8=>exact wrap_signed_at 128 n (by decide) rfl (by decide) (by decide)
 case i16=>exact wrap_signed_at 32768 n (by decide) rfl (by decide) (by decide)
 case i32=>exact wrap_signed_at 2147483648 n (by decide) rfl (by decide) (by decide)
 case i64=>exact wrap_signed_at 9223372036854775808 n (by decide) rfl (by decide) (by decide)
 all_goals (simp only [IntKind.wrap,IntKind.bits,IntKind.signed,Bool.false_and,Bool.false_eq_true,if_false]; exact Int.emod_emod _ _)
structure I (k:IntKind) where
 val:Int
 ok:k.wrap val = val
theorem I.ext' {k:IntKind} {a b:I k} (h:a.val = b.val):a = b:=by
 cases a; cases b; simp only at h; subst h; rfl
def I.of (k:IntKind) (n:Int):I k:=⟨k.wrap n,wrap_wrap k n⟩
def Arr (X:Type):Nat→Type
 | 0=>Unit
 | n + 1=>X × Arr X n
def Arr.sel {X:Type} (d:X):(n:Nat)→Arr X n→Nat→X
 | 0,_,_=>d
 | _ + 1,x,0=>x.1
 | n + 1,x,i + 1=>Arr.sel d n x.2 i
def Arr.upd {X:Type}:(n:Nat)→Arr X n→Nat→X→Arr X n
 | 0,x,_,_=>x
 | _ + 1,x,0,v=>(v,x.2)
 | n + 1,x,i + 1,v=>(x.1,Arr.upd n x.2 i v)
def Arr.rep {X:Type} (d:X):(n:Nat)→Arr X n
 | 0=>()
 | n + 1=>(d,Arr.rep d n)
def Arr.eqb {X:Type} (f:X→X→Bool):(n:Nat)→Arr X n→Arr X n→Bool
 | 0,_,_=>true
 | n + 1,x,y=>f x.1 y.1 && Arr.eqb f n x.2 y.2
inductive Ty where
 | int (k:IntKind)
 | bool
 | str
 | nil
 | cons (a b:Ty)
 | arr (n:Nat) (t:Ty)
 | sl (t:Ty)
 | opq
 | fnc
def Ty.D:Ty→Type
 | .int k=>I k
 | .bool=>Bool
 | .str=>List (I .u8)
 | .nil=>Unit
 | .cons a b=>a.D × b.D
 | .arr n t=>Arr t.D n
 | .sl t=>List t.D
 | .opq=>Unit
 | .fnc=>Option Nat
def Ty.zero:(t:Ty)→t.D
 | .int k=>I.of k 0
 | .bool=>false
 | .str=>[]
 | .nil=>()
 | .cons a b=>(a.zero,b.zero)
 | .arr n t=>Arr.rep t.zero n
 | .sl _=>[]
 | .opq=>()
 | .fnc=>none
def Ty.sz:Ty→Nat
 | .nil=>0
 | .cons a b=>a.sz + b.sz
 | .arr n t=>n * t.sz
 | _=>1
def Ty.isAgg:Ty→Bool
 | .nil | .cons _ _ | .arr _ _=>true
 | _=>false
def kindEq:IntKind→IntKind→Bool
 | .i8,.i8 | .i16,.i16 | .i32,.i32 | .i64,.i64 | .u8,.u8 | .u16,.u16 | .u32,.u32 | .u64,.u64=>true
 | _,_=>false
theorem kindEq_eq:∀ {a b:IntKind},kindEq a b = true→a = b:=by
 intro a b; cases a <;> cases b <;> intro h <;> first | rfl | (simp [kindEq] at h)
def Ty.beq:Ty→Ty→Bool
 | .int k,.int l=>kindEq k l
 | .bool,.bool=>true
 | .str,.str=>true
 | .nil,.nil=>true
 | .cons a b,.cons c d=>Ty.beq a c && Ty.beq b d
 | .arr n t,.arr m u=>Nat.beq n m && Ty.beq t u
 | .sl t,.sl u=>Ty.beq t u
 | .opq,.opq=>true
 | .fnc,.fnc=>true
 | _,_=>false
theorem Ty.beq_eq:∀ {a b:Ty},Ty.beq a b = true→a = b:=by
 intro a
 induction a with
 | int k=>intro b h; cases b <;> simp [Ty.beq] at h; rw [kindEq_eq h]
 | bool=>intro b h; cases b <;> simp [Ty.beq] at h; rfl
 | str=>intro b h; cases b <;> simp [Ty.beq] at h; rfl
 | nil=>intro b h; cases b <;> simp [Ty.beq] at h; rfl
 | cons a c iha ihc=>intro b h; cases b <;> simp [Ty.beq] at h; rw [iha h.1,ihc h.2]
 | arr n t ih=>intro b h; cases b <;> simp [Ty.beq] at h; rw [h.1,ih h.2]
 | sl t ih=>intro b h; cases b <;> simp [Ty.beq] at h; rw [ih h]
 | opq=>intro b h; cases b <;> simp [Ty.beq] at h; rfl
 | fnc=>intro b h; cases b <;> simp [Ty.beq] at h; rfl
def Ty.eqb:(t:Ty)→t.D→t.D→Bool
 | .int _,x,y=>decide (x.val = y.val)
 | .bool,x,y=>(show Bool from x) == (show Bool from y)
 | .str,_,_=>false
 | .nil,_,_=>true
 | .cons a b,x,y=>a.eqb x.1 y.1 && b.eqb x.2 y.2
 | .arr n t,x,y=>Arr.eqb t.eqb n x y
 | .sl _,_,_=>false
 | .opq,_,_=>false
 | .fnc,_,_=>false
def Ty.eqOk:Ty→Bool
 | .int _ | .bool | .nil=>true
 | .cons a b=>a.eqOk && b.eqOk
 | .arr _ t=>t.eqOk
 | _=>false
def Ty.cast (a b:Ty) (x:a.D):Option b.D :=
 match h:Ty.beq a b with
 | true=>some (Ty.beq_eq h ▸ x)
 | false=>none
def LIM:Nat:=2 ^ 47
abbrev a1I {X:Type} (l:List X):Nat:=l.length
abbrev appL {X:Type} (l r:List X):List X:=l ++ r
abbrev subL {X:Type} (l:List X) (lo n:Nat):List X:=(l.drop lo).take n
abbrev bnot (b:Bool):Bool:=!b
abbrev bsel (p q r:Bool):Bool:=bif p then q else r
abbrev emptyN (n:Nat):Bool:=Nat.beq n 0
abbrev eqN (n m:Nat):Bool:=Nat.beq n m
open Classical in
noncomputable def both {R:Type} (fail a b:R):R:=if a = b then a else fail
theorem both_ok {R:Type} {T:R→Prop} {fail a b:R} (hf:¬ T fail) (h:T (both fail a b)):T a∧T b:=by
 unfold both at h
 split at h
 ·
  rename_i e; exact ⟨h,e ▸ h⟩
 ·
  exact absurd h hf
theorem both_eq {R:Type} {fail a b:R} (h:a = b):both fail a b = a:=if_pos h
abbrev brn {R:Type} (c:Bool) (t f:R):R:=bif c then t else f
abbrev tY0:Ty:=.cons (.sl (.arr 32 (.int .u8))) .nil
abbrev tY1:Ty:=.cons (.cons (.int .u64) (.cons (.arr 4 (.int .u64)) (.cons (.arr 4 (.int .u64)) (.cons (.arr 4 (.int .u64)) (.cons (.arr 4 (.int .u64)) (.cons (.int .u64) .nil)))))) (.cons (.int .i64) .nil)
abbrev tY2:Ty:=.cons (.sl (.cons (.cons (.int .u64) (.cons (.arr 4 (.int .u64)) (.cons (.arr 4 (.int .u64)) (.cons (.arr 4 (.int .u64)) (.cons (.arr 4 (.int .u64)) (.cons (.int .u64) .nil)))))) (.cons (.int .i64) .nil))) .nil
abbrev tY3:Ty:=.cons (.int .u64) (.cons (.arr 4 (.int .u64)) (.cons (.arr 4 (.int .u64)) (.cons (.arr 4 (.int .u64)) (.cons (.arr 4 (.int .u64)) (.cons (.int .u64) .nil)))))
abbrev tY4:Ty:=.cons (.int .u64) (.cons (.arr 4 (.int .u64)) .nil)
abbrev tY5:Ty:=.cons .bool (.cons (.arr 4 (.int .u64)) .nil)
abbrev tY6:Ty:=.cons (.int .u64) (.cons (.int .u64) (.cons (.int .u64) (.cons (.arr 4 (.int .u64)) (.cons (.int .u64) (.cons (.arr 4 (.int .u64)) (.cons (.int .u64) (.cons (.arr 4 (.int .u64)) (.cons (.int .u64) (.cons (.int .u64) (.cons (.int .u64) (.cons (.int .u64) .nil)))))))))))
abbrev tY7:Ty:=.cons (.int .u64) (.cons (.int .u64) (.cons (.int .u64) (.cons (.arr 4 (.int .u64)) (.cons (.int .u64) (.cons (.arr 4 (.int .u64)) (.cons (.arr 4 (.int .u64)) (.cons (.int .u64) (.cons (.sl (.int .u8)) .nil))))))))
abbrev tY8:Ty:=.cons (.int .u64) (.cons (.int .u64) (.cons (.int .u64) (.cons (.int .u64) (.cons .bool (.cons (.arr 4 (.int .u64)) (.cons (.arr 4 (.int .u64)) (.cons (.arr 4 (.int .u64)) (.cons (.arr 4 (.int .u64)) (.cons (.arr 4 (.int .u64)) .nil)))))))))
end Sym

/- The symbolic evaluator: values, memory, operations, regions, code. Plain functions that reduce by computation alone. -/
namespace Sym
open Go
inductive Step where
 | fld (j:Nat)
 | idx (i:Nat)
inductive PV where
 | val (t:Ty) (x:t.D)
 | nils
 | pair (a b:PV)
 | tup (a:PV)
 | ptr (b:Nat) (p:List Step)
 | bptr (t:Ty) (x:t.D)
 | npt
 | whole (b:Nat)
 | row (b lo n:Nat)
 | aview (b:Nat) (p:List Step) (lo n:Nat)
 | fn (f:Nat)
 | iface (t:Nat) (v:PV)
 | clo (f:Nat) (cap:PV)
 | cut (b k:Nat)
 | undef
inductive Blk where
 | unborn
 | dead
 | box (t:Ty) (v:PV)
 | row (t:Ty) (l:List t.D)
def a0K:List Blk→Nat→Blk
 | [],_=>.unborn
 | b :: _,0=>b
 | _ :: l,n + 1=>a0K l n
def slotAt:List PV→Nat→PV
 | [],_=>.undef
 | v :: _,0=>v
 | _ :: l,n + 1=>slotAt l n
def setAt {X:Type}:List X→Nat→X→List X
 | [],_,_=>[]
 | _ :: l,0,v=>v :: l
 | x :: l,n + 1,v=>x :: setAt l n v
abbrev setL {X:Type} (l:List X) (i:Nat) (v:X):List X:=setAt l i v
def Ty.flat:Ty→Bool
 | .int _ | .bool | .str | .nil=>true
 | .cons a b=>a.flat && b.flat
 | .arr _ t=>t.flat
 | _=>false
def zeroPV:Ty→PV
 | .int k=>.val (.int k) (I.of k 0)
 | .bool=>.val .bool false
 | .str=>.val .str []
 | .nil=>.val .nil ()
 | .cons a b=>match (Ty.cons a b).flat with
  | true=>.val (.cons a b) (Ty.zero (.cons a b))
  | false=>.pair (zeroPV a) (zeroPV b)
 | .arr n t=>.val (.arr n t) (Ty.zero (.arr n t))
 | .sl _=>.nils
 | .opq=>.npt
 | .fnc=>.val .fnc none
def getVal:(t:Ty)→t.D→List Step→Option PV
 | t,x,[]=>some (.val t x)
 | .cons a _,x,.fld 0 :: p=>getVal a x.1 p
 | .cons _ b,x,.fld (j + 1) :: p=>getVal b x.2 (.fld j :: p)
 | .arr n t,x,.idx i :: p=>getVal t (Arr.sel t.zero n x i) p
 | _,_,_=>none
def getPath:PV→List Step→Option PV
 | v,[]=>some v
 | .pair a _,.fld 0 :: p=>getPath a p
 | .pair _ b,.fld (j + 1) :: p=>getPath b (.fld j :: p)
 | .val t x,p=>getVal t x p
 | _,_=>none
def putVal (u:Ty) (y:u.D):(t:Ty)→t.D→List Step→Option t.D
 | t,_,[]=>Ty.cast u t y
 | .cons a b,x,.fld 0 :: p=>match putVal u y a x.1 p with
  | some z=>some ((z,x.2):a.D × b.D)
  | none=>none
 | .cons a b,x,.fld (j + 1) :: p=>match putVal u y b x.2 (.fld j :: p) with
  | some z=>some ((x.1,z):a.D × b.D)
  | none=>none
 | .arr n t,x,.idx i :: p=>match putVal u y t (Arr.sel t.zero n x i) p with
  | some z=>some (Arr.upd n x i z)
  | none=>none
 | _,_,_=>none
def putOther (v:PV):(t:Ty)→t.D→List Step→Option PV
 | _,_,[]=>some v
 | .cons a b,x,.fld 0 :: p=>match putOther v a x.1 p with
  | some z=>some (.pair z (.val b x.2))
  | none=>none
 | .cons a b,x,.fld (j + 1) :: p=>match putOther v b x.2 (.fld j :: p) with
  | some z=>some (.pair (.val a x.1) z)
  | none=>none
 | _,_,_=>none
def setVal (v:PV) (t:Ty) (x:t.D) (p:List Step):Option PV :=
 match v with
 | .val u y=>match putVal u y t x p with
  | some z=>some (.val t z)
  | none=>none
 | v=>putOther v t x p
def setPath (v:PV):PV→List Step→Option PV
 | _,[]=>some v
 | .pair a b,.fld 0 :: p=>match setPath v a p with
  | some z=>some (.pair z b)
  | none=>none
 | .pair a b,.fld (j + 1) :: p=>match setPath v b (.fld j :: p) with
  | some z=>some (.pair a z)
  | none=>none
 | .val t x,p=>setVal v t x p
 | _,_=>none
def Arr.list {X:Type}:(n:Nat)→Arr X n→List X
 | 0,_=>[]
 | n + 1,x=>x.1 :: Arr.list n x.2
def Arr.ofList {X:Type} (d:X):(n:Nat)→List X→Arr X n
 | 0,_=>()
 | n + 1,[]=>(d,Arr.ofList d n [])
 | n + 1,x :: l=>(x,Arr.ofList d n l)
def toVal (H:List Blk):(t:Ty)→PV→Option (t.D × List Nat)
 | t,.val u x=>match Ty.cast u t x with
  | some y=>some (y,[])
  | none=>none
 | .cons a b,.pair p q=>match toVal H a p,toVal H b q with
  | some x,some y=>some (((x.1,y.1):a.D × b.D),x.2 ++ y.2)
  | _,_=>none
 | .fnc,.fn f=>some ((some f:Option Nat),[])
 | .sl _,.nils=>some ([],[])
 | .sl t,.whole b=>match a0K H b with
  | .row u l=>match Ty.cast (.sl u) (.sl t) l with
   | some y=>some (y,[b])
   | none=>none
  | _=>none
 | .sl t,.row b lo n=>match a0K H b with
  | .row u l=>match Ty.cast (.sl u) (.sl t) l with
   | some y=>some (subL (show List t.D from y) lo n,[b])
   | none=>none
  | _=>none
 | .sl t,.aview b p lo n=>match a0K H b with
  | .box _ v=>match getPath v p with
   | some (.val (.arr m u) x)=>match Ty.cast (.sl u) (.sl t) (Arr.list m x) with
    | some y=>some (subL (show List t.D from y) lo n,[b])
    | none=>none
   | _=>none
  | _=>none
 | _,_=>none
def fits:PV→Ty→Bool
 | .val u _,t=>Ty.beq u t
 | .pair a b,.cons c d=>fits a c && fits b d
 | .nils,.sl _=>true
 | .whole _,.sl _=>true
 | .row _ _ _,.sl _=>true
 | .aview _ _ _ _,.sl _=>true
 | .cut _ _,.sl _=>true
 | .ptr _ _,.opq=>true
 | .bptr _ _,.opq=>true
 | .npt,.opq=>true
 | .fn _,.opq=>true
 | .fn _,.fnc=>true
 | _,_=>false
inductive Sh where
 | pl (t:Ty)
 | bp (t:Ty)
 | ptr (b:Nat) (p:List Step)
 | npt
 | whole (b:Nat)
 | pair (a b:Sh)
 | fn (f:Nat)
 | iface (t:Nat) (s:Sh)
 | clo (f:Nat) (s:Sh)
 | dead
inductive BSh where
 | box (t:Ty) (s:Sh)
 | row (t:Ty)
def Sh.D:Sh→Type
 | .pl t=>t.D
 | .bp t=>t.D
 | .pair a b=>a.D × b.D
 | .iface _ s=>s.D
 | .clo _ s=>s.D
 | _=>Unit
def ShD:List Sh→Type
 | []=>Unit
 | .pl t :: l=>t.D × ShD l
 | .bp t :: l=>t.D × ShD l
 | .pair a b :: l=>(Sh.pair a b).D × ShD l
 | .iface t s :: l=>(Sh.iface t s).D × ShD l
 | .clo f s :: l=>(Sh.clo f s).D × ShD l
 | _ :: l=>ShD l
def BSh.D:BSh→Type
 | .box _ s=>s.D
 | .row t=>List t.D
def BShD:List BSh→Type
 | []=>Unit
 | b :: l=>b.D × BShD l
structure Tm where
 slots:List Sh
 heap:List BSh
def Tm.D (τ:Tm):Type:=ShD τ.slots × BShD τ.heap
def Sh.mk:(s:Sh)→s.D→PV
 | .pl t,x=>.val t x
 | .bp t,x=>.bptr t x
 | .ptr b p,_=>.ptr b p
 | .npt,_=>.npt
 | .whole b,_=>.whole b
 | .pair a b,x=>.pair (a.mk x.1) (b.mk x.2)
 | .fn f,_=>.fn f
 | .iface t s,x=>.iface t (s.mk x)
 | .clo f s,x=>.clo f (s.mk x)
 | .dead,_=>.undef
def a1U:(l:List Sh)→ShD l→List PV
 | [],_=>[]
 | .pl t :: l,x=>.val t x.1 :: a1U l x.2
 | .bp t :: l,x=>.bptr t x.1 :: a1U l x.2
 | .pair a b :: l,x=>(Sh.pair a b).mk x.1 :: a1U l x.2
 | .iface t s :: l,x=>(Sh.iface t s).mk x.1 :: a1U l x.2
 | .clo f s :: l,x=>(Sh.clo f s).mk x.1 :: a1U l x.2
 | .ptr b p :: l,x=>.ptr b p :: a1U l x
 | .npt :: l,x=>.npt :: a1U l x
 | .whole b :: l,x=>.whole b :: a1U l x
 | .fn f :: l,x=>.fn f :: a1U l x
 | .dead :: l,x=>.undef :: a1U l x
def BSh.mk:(b:BSh)→b.D→Blk
 | .box t s,x=>.box t (s.mk x)
 | .row t,x=>.row t x
def mkHeap:(l:List BSh)→BShD l→List Blk
 | [],_=>[]
 | b :: l,x=>b.mk x.1 :: mkHeap l x.2
abbrev Sub:=List (Nat × Nat)
def Sub.get:Sub→Nat→Option Nat
 | [],_=>none
 | (i,j) :: l,k=>match Nat.beq i k with
  | true=>some j
  | false=>Sub.get l k
def Sub.inv:Sub→Nat→Bool
 | [],_=>false
 | (_,j) :: l,k=>Nat.beq j k || Sub.inv l k
def Sub.bind (σ:Sub) (i j:Nat):Option Sub :=
 match σ.get i with
 | some j'=>match Nat.beq j' j with
  | true=>some σ
  | false=>none
 | none=>match σ.inv j with
  | true=>none
  | false=>some ((i,j) :: σ)
def stepEq:Step→Step→Bool
 | .fld i,.fld j=>Nat.beq i j
 | .idx i,.idx j=>Nat.beq i j
 | _,_=>false
def pathEq:List Step→List Step→Bool
 | [],[]=>true
 | a :: p,b :: q=>stepEq a b && pathEq p q
 | _,_=>false
structure Mt where
 σ:Sub
 lent:List Nat
def peek (H:List Blk) (t:Ty) (b:Nat) (p:List Step):Option (t.D × List Nat) :=
 match a0K H b with
 | .box _ v=>match getPath v p with
  | some y=>match toVal H t y with
   | some (x,l)=>some (x,b :: l)
   | none=>none
  | none=>none
 | _=>none
def Sh.ext (H:List Blk):(s:Sh)→PV→Mt→Option (s.D × Mt)
 | .pl t,v,m=>match toVal H t v with
  | some (x,l)=>some (x,⟨m.σ,l ++ m.lent⟩)
  | none=>none
 | .bp t,.bptr u x,m=>match Ty.cast u t x with
  | some y=>some (y,m)
  | none=>none
 | .bp t,.ptr b p,m=>match peek H t b p with
  | some (x,l)=>some (x,⟨m.σ,l ++ m.lent⟩)
  | none=>none
 | .ptr b p,.ptr c q,m=>match pathEq p q with
  | true=>match m.σ.bind b c with
   | some σ=>some ((),⟨σ,m.lent⟩)
   | none=>none
  | false=>none
 | .npt,.npt,m=>some ((),m)
 | .whole b,.whole c,m=>match m.σ.bind b c with
  | some σ=>some ((),⟨σ,m.lent⟩)
  | none=>none
 | .pair a b,.pair p q,m=>match a.ext H p m with
  | some (x,m1)=>match b.ext H q m1 with
   | some (y,m2)=>some (((x,y):a.D × b.D),m2)
   | none=>none
  | none=>none
 | .fn f,.fn g,m=>match Nat.beq f g with
  | true=>some ((),m)
  | false=>none
 | .iface t s,.iface u v,m=>match Nat.beq t u with
  | true=>s.ext H v m
  | false=>none
 | .clo f s,.clo g v,m=>match Nat.beq f g with
  | true=>s.ext H v m
  | false=>none
 | _,_,_=>none
def ShD.cons:(s:Sh)→(l:List Sh)→s.D→ShD l→ShD (s :: l)
 | .pl _,_,x,y=>(x,y)
 | .bp _,_,x,y=>(x,y)
 | .pair _ _,_,x,y=>(x,y)
 | .iface _ _,_,x,y=>(x,y)
 | .clo _ _,_,x,y=>(x,y)
 | .ptr _ _,_,_,y=>y
 | .npt,_,_,y=>y
 | .whole _,_,_,y=>y
 | .fn _,_,_,y=>y
 | .dead,_,_,y=>y
def Sh.isDead:Sh→Bool
 | .dead=>true
 | _=>false
def Sh.ext' (H:List Blk) (s:Sh) (v:PV) (m:Mt):Option (s.D × Mt) :=
 match s with
 | .dead=>some ((),m)
 | s=>s.ext H v m
def extSlots (H:List Blk):(l:List Sh)→List PV→Mt→Option (ShD l × Mt)
 | [],_,m=>some ((),m)
 | s :: l,v :: vs,m=>match s.ext' H v m with
  | some (x,m1)=>match extSlots H l vs m1 with
   | some (y,m2)=>some (ShD.cons s l x y,m2)
   | none=>none
  | none=>none
 | _ :: _,[],_=>none
def BSh.ext (H:List Blk):(b:BSh)→Blk→Mt→Option (b.D × Mt)
 | .box t s,.box u v,m=>match Ty.beq t u with
  | true=>match s.ext H v m with
   | some (x,m1)=>match fits (s.mk x) t with
    | true=>some (x,m1)
    | false=>none
   | none=>none
  | false=>none
 | .row t,.row u l,m=>match Ty.cast (.sl u) (.sl t) l with
  | some y=>some (y,m)
  | none=>none
 | _,_,_=>none
def extHeap (H:List Blk):(l:List BSh)→Nat→Mt→Option (BShD l × Mt)
 | [],_,m=>some ((),m)
 | b :: l,i,m=>match m.σ.get i with
  | some j=>match b.ext H (a0K H j) m with
   | some (x,m1)=>match extHeap H l (i + 1) m1 with
    | some (y,m2)=>some ((x,y),m2)
    | none=>none
   | none=>none
  | none=>none
def Sub.keys:Sub→Nat→Bool
 | [],_=>true
 | (i,_) :: l,n=>Nat.ble (i + 1) n && Sub.keys l n
def Sub.inj:Sub→Bool
 | []=>true
 | (_,j) :: l=>!Sub.inv l j && Sub.inj l
def live:Blk→Bool
 | .box _ _ | .row _ _=>true
 | _=>false
def Mt.okb (m:Mt) (H:List Blk) (n:Nat):Bool:=(m.lent.all fun j=>!m.σ.inv j && live (a0K H j)) && (m.σ.keys n && m.σ.inj)
def Tm.extF (τ:Tm) (m0:Mt) (vs:List PV) (H:List Blk):Option (τ.D × Mt) :=
 match extSlots H τ.slots vs m0 with
 | some (x,m1)=>match extHeap H τ.heap 0 m1 with
  | some (y,m2)=>match m2.okb H τ.heap.length with
   | true=>some ((x,y),m2)
   | false=>none
  | none=>none
 | none=>none
def Tm.ext (τ:Tm) (vs:List PV) (H:List Blk):Option (τ.D × Mt):=τ.extF ⟨[],[]⟩ vs H
def bindK:List PV→Nat→Sub→Option Sub
 | [],_,σ=>some σ
 | .ptr b [] :: l,i,σ=>match σ.bind i b with
  | some σ'=>bindK l (i + 1) σ'
  | none=>none
 | _,_,_=>none
end Sym

/- The symbolic evaluator: operations, regions, code. -/
namespace Sym
open Go
noncomputable section
namespace I
variable {k:IntKind}
def add (a b:I k):I k:=I.of k (a.val + b.val)
def sub (a b:I k):I k:=I.of k (a.val - b.val)
def mul (a b:I k):I k:=I.of k (a.val * b.val)
def and (a b:I k):I k:=I.of k (BitVec.ofInt k.bits a.val &&& BitVec.ofInt k.bits b.val).toNat
def or (a b:I k):I k:=I.of k (BitVec.ofInt k.bits a.val ||| BitVec.ofInt k.bits b.val).toNat
def xor (a b:I k):I k:=I.of k (BitVec.ofInt k.bits a.val ^^^ BitVec.ofInt k.bits b.val).toNat
def andNot (a b:I k):I k:=I.of k (BitVec.ofInt k.bits a.val &&& ~~~ BitVec.ofInt k.bits b.val).toNat
def quo (a b:I k):I k:=I.of k (a.val.tdiv b.val)
def rem (a b:I k):I k:=I.of k (a.val.tmod b.val)
def shl {l:IntKind} (a:I k) (b:I l):I k:=I.of k (a.val * 2 ^ (min b.val.toNat k.bits))
def shr {l:IntKind} (a:I k) (b:I l):I k:=I.of k (a.val.fdiv (2 ^ (min b.val.toNat k.bits)))
def neg (a:I k):I k:=I.of k (0 - a.val)
def com (a:I k):I k:=I.of k (BitVec.ofInt k.bits (if k.signed then -1 else k.max) ^^^ BitVec.ofInt k.bits a.val).toNat
def conv (l:IntKind) (a:I k):I l:=I.of l a.val
def eqb (a b:I k):Bool:=decide (a.val = b.val)
def neb (a b:I k):Bool:=!decide (a.val = b.val)
def ltb (a b:I k):Bool:=decide (a.val < b.val)
def leb (a b:I k):Bool:=decide (a.val ≤ b.val)
def nat (a:I k):Nat:=a.val.toNat
def ofNat (k:IntKind) (n:Nat):I k:=I.of k n
def mn (a b:I k):I k:=if b.val < a.val then b else a
def mx (a b:I k):I k:=if a.val < b.val then b else a
end I
def inB {k:IntKind} (i:I k) (n:Nat):Bool:=decide (0 ≤ i.val) && decide (i.val < n)
def inB' {k:IntKind} (i:I k) (n:Nat):Bool:=decide (0 ≤ i.val) && decide (i.val ≤ n)
def eqV {k l:IntKind} (a:I k) (b:I l):Bool:=decide (a.val = b.val)
def a1Z (n:Nat):Bool:=decide (n ≤ 1073741824)
def I.nn {k:IntKind} (a:I k):Bool:=decide (0 ≤ a.val)
def I.nz {k:IntKind} (a:I k):Bool:=!decide (a.val = 0)
def rdL {X:Type} (d:X):List X→Nat→X
 | [],_=>d
 | x :: _,0=>x
 | _ :: l,n + 1=>rdL d l n
structure Con where
 In:Tm
 Out:Tm
 F:In.D→Option Out.D
inductive How where
 | con (c:Con)
 | inl
 | fresh (c:Con)
structure Env where
 P:Program
 ty:Nat→Option Ty
 eqT:Nat→Option Ty
 how:Nat→Option How
 own:Nat→Bool
 meth:Nat→String→Option (FuncId × Option Nat)
def plainPV:PV→Bool
 | .tup _ | .undef=>false
 | _=>true
def oneC:PV→Bool
 | .val t _=>!t.isAgg
 | .pair _ _ | .tup _ | .undef=>false
 | _=>true
def capOk:PV→Bool
 | .pair a b=>oneC a && capOk b
 | .val .nil _=>true
 | _=>false
def capList:PV→List PV
 | .pair a b=>a :: capList b
 | _=>[]
def cloPV (f:Nat) (args:List PV):PV :=
 match args with
 | []=>.fn f
 | _=>.clo f (args.foldr .pair (.val .nil ()))
def ownNils:Ty→PV→Nat→PV × List (Nat × Blk)
 | .sl t,.nils,nb=>(.whole nb,[(nb,.row t [])])
 | .cons a b,.pair p q,nb=>(.pair (ownNils a p nb).1 (ownNils b q (nb + (ownNils a p nb).2.length)).1,(ownNils a p nb).2 ++ (ownNils b q (nb + (ownNils a p nb).2.length)).2)
 | _,v,_=>(v,[])
variable {R:Type}
def obl (fail:R) (c:Bool) (K:R):R:=brn c K fail
def oblIf (ask:Bool) (fail:R) (c:Bool) (K:R):R :=
 match ask with
 | true=>obl fail c K
 | false=>K
def opInt (fail:R) (op:BinOp) {k:IntKind} (a b:I k) (K:PV→R):R :=
 match op with
 | .add=>K (.val (.int k) (a.add b))
 | .sub=>K (.val (.int k) (a.sub b))
 | .mul=>K (.val (.int k) (a.mul b))
 | .and=>K (.val (.int k) (a.and b))
 | .or=>K (.val (.int k) (a.or b))
 | .xor=>K (.val (.int k) (a.xor b))
 | .andNot=>K (.val (.int k) (a.andNot b))
 | .quo=>obl fail b.nz (K (.val (.int k) (a.quo b)))
 | .rem=>obl fail b.nz (K (.val (.int k) (a.rem b)))
 | .eql=>K (.val .bool (a.eqb b))
 | .neq=>K (.val .bool (a.neb b))
 | .lss=>K (.val .bool (a.ltb b))
 | .leq=>K (.val .bool (a.leb b))
 | .gtr=>K (.val .bool (b.ltb a))
 | .geq=>K (.val .bool (b.leb a))
 | _=>fail
def opShift (fail:R) (op:BinOp) {k l:IntKind} (a:I k) (b:I l) (K:PV→R):R :=
 match op with
 | .shl=>obl fail b.nn (K (.val (.int k) (a.shl b)))
 | .shr=>obl fail b.nn (K (.val (.int k) (a.shr b)))
 | _=>fail
def isShift:BinOp→Bool
 | .shl | .shr=>true
 | _=>false
def strLt:List (I .u8)→List (I .u8)→Bool
 | _,[]=>false
 | [],_ :: _=>true
 | a :: x,b :: y=>I.ltb a b || (I.eqb a b && strLt x y)
def strEq:List (I .u8)→List (I .u8)→Bool
 | [],[]=>true
 | a :: x,b :: y=>I.eqb a b && strEq x y
 | _,_=>false
abbrev strLe (x y:List (I .u8)):Bool:=strLt x y || strEq x y
def strPV (fail:R) (op:BinOp) (x y:List (I .u8)) (K:PV→R):R :=
 match op with
 | .add=>obl fail (a1Z (a1I (appL x y))) (K (.val .str (appL x y)))
 | .eql=>K (.val .bool (strEq x y))
 | .neq=>K (.val .bool (bnot (strEq x y)))
 | .lss=>K (.val .bool (strLt x y))
 | .leq=>K (.val .bool (strLe x y))
 | .gtr=>K (.val .bool (bnot (strLe x y)))
 | .geq=>K (.val .bool (bnot (strLt x y)))
 | _=>fail
def binPV (fail:R) (op:BinOp) (eqt:Option Ty) (x y:PV) (K:PV→R):R :=
 match x,y with
 | .val (.int k) a,.val (.int l) b=>match isShift op with
  | true=>opShift fail op (k:=k) (l:=l) a b K
  | false=>match Ty.cast (.int l) (.int k) b with
   | some c=>opInt fail op (k:=k) a c K
   | none=>fail
 | .val .str a,.val .str b=>strPV fail op a b K
 | .val t a,.val u b=>match eqt with
  | some s=>match Ty.cast t s a,Ty.cast u s b with
   | some a,some c=>match op with
    | .eql=>K (.val .bool (s.eqb a c))
    | .neq=>K (.val .bool (bnot (s.eqb a c)))
    | _=>fail
   | _,_=>fail
  | none=>fail
 | x,.npt=>match eqt,x with
  | some .opq,.npt=>match op with
   | .eql=>K (.val .bool true)
   | .neq=>K (.val .bool false)
   | _=>fail
  | some .opq,.ptr _ _=>match op with
   | .eql=>K (.val .bool false)
   | .neq=>K (.val .bool true)
   | _=>fail
  | some .opq,.bptr _ _=>match op with
   | .eql=>K (.val .bool false)
   | .neq=>K (.val .bool true)
   | _=>fail
  | _,_=>fail
 | _,_=>fail
def unPV (fail:R) (op:UnOp) (x:PV) (K:PV→R):R :=
 match op,x with
 | .neg,.val (.int k) a=>K (.val (.int k) (I.neg (k:=k) a))
 | .xor,.val (.int k) a=>K (.val (.int k) (I.com (k:=k) a))
 | .not,.val .bool b=>K (.val .bool (bnot (show Bool from b)))
 | _,_=>fail
def Ty.noOpq:Ty→Bool
 | .opq=>false
 | .cons a b=>a.noOpq && b.noOpq
 | .arr _ t=>t.noOpq
 | .sl t=>t.noOpq
 | _=>true
def Ty.zOk:Ty→Bool
 | .arr _ t=>t.noOpq
 | .cons a b=>a.zOk && b.zOk
 | _=>true
def Ty.bOk:Ty→Bool
 | .arr _ t=>t.flat
 | _=>true
def Ty.isOpq:Ty→Bool
 | .opq=>true
 | _=>false
def tupAt:PV→Nat→Option PV
 | .pair a _,0=>some a
 | .pair _ b,n + 1=>tupAt b n
 | _,_=>none
def offTy:Ty→List Step→Option (Nat × Ty)
 | t,[]=>some (0,t)
 | .cons a _,.fld 0 :: p=>offTy a p
 | .cons a b,.fld (j + 1) :: p=>match offTy b (.fld j :: p) with
  | some (o,t)=>some (a.sz + o,t)
  | none=>none
 | .arr n t,.idx i :: p=>if i < n then (match offTy t p with
  | some (o,u)=>some (i * t.sz + o,u)
  | none=>none) else none
 | _,_=>none
def partOf:Ty→Nat→Step
 | .arr _ _,i=>.idx i
 | _,i=>.fld i
def fillPV (t:Ty):PV→List (Nat × PV)→Option PV
 | v,[]=>some v
 | v,(i,u) :: l=>match offTy t [partOf t i] with
  | some (_,s)=>match fits u s with
   | true=>match setPath u v [partOf t i] with
    | some v'=>fillPV t v' l
    | none=>none
   | false=>none
  | none=>none
def fillArr (H:List Blk) (t:Ty) (n:Nat):Arr t.D n→List (Nat × PV)→Option (Arr t.D n × List Nat)
 | x,[]=>some (x,[])
 | x,(i,u) :: r=>match Nat.ble (i + 1) n with
  | true=>match toVal H t u with
   | some (y,b)=>match fillArr H t n (Arr.upd n x i y) r with
    | some (x',b')=>some (x',b ++ b')
    | none=>none
   | none=>none
  | false=>none
def fillRow (H:List Blk) (t:Ty):List t.D→List (Nat × PV)→Option (List t.D × List Nat)
 | l,[]=>some (l,[])
 | l,(i,u) :: r=>match Nat.ble (i + 1) l.length with
  | true=>match toVal H t u with
   | some (x,b)=>match fillRow H t (setAt l i x) r with
    | some (l',b')=>some (l',b ++ b')
    | none=>none
   | none=>none
  | false=>none
def kill (l:List Nat):List (Nat × Blk):=l.map fun b=>(b,Blk.dead)
def zipNat:List Nat→List PV→List (Nat × PV)
 | i :: l,v :: r=>(i,v) :: zipNat l r
 | _,_=>[]
def repL {X:Type}:Nat→X→List X
 | 0,_=>[]
 | n + 1,x=>x :: repL n x
abbrev repD {X:Type} (n:Nat) (x:X):List X:=repL n x
theorem zrowEx {X:Type} (n:Nat) (x:X):∃ l:List X,l = repL n x:=⟨_,rfl⟩
noncomputable def zrow {X:Type} (n:Nat) (x:X):List X:=Classical.choose (zrowEx n x)
theorem zrow_eq {X:Type} (n:Nat) (x:X):zrow n x = repL n x:=Classical.choose_spec (zrowEx n x)
def lenPV (H:List Blk):PV→Option Nat
 | .nils=>some 0
 | .val (.sl t) l=>some (a1I (show List t.D from l))
 | .val .str l=>some (a1I (show List (I .u8) from l))
 | .whole b=>match a0K H b with
  | .row _ l=>some (a1I l)
  | _=>none
 | .row b _ n=>match a0K H b with
  | .row _ _=>some n
  | _=>none
 | .aview b _ _ n=>match a0K H b with
  | .box _ _=>some n
  | _=>none
 | _=>none
def isStrPV:PV→Bool
 | .val .str _=>true
 | _=>false
def lenOf (H:List Blk) (t:Ty) (x:PV):Option Nat :=
 match t with
 | .arr n _=>match Nat.ble n 1048576 with
  | true=>some n
  | false=>none
 | .sl _=>match isStrPV x with
  | true=>none
  | false=>lenPV H x
 | .str=>match isStrPV x with
  | true=>lenPV H x
  | false=>none
 | _=>none
def nilCmp (fail:R) (op:BinOp) (H:List Blk) (x:PV) (K:PV→R):R :=
 match op with
 | .eql=>match x with
  | .nils=>K (.val .bool true)
  | x=>match isStrPV x with
   | true=>fail
   | false=>match lenPV H x with
    | some n=>brn (emptyN n) (both fail (K (.val .bool true)) (K (.val .bool false))) (K (.val .bool false))
    | none=>fail
 | .neq=>match x with
  | .nils=>K (.val .bool false)
  | x=>match isStrPV x with
   | true=>fail
   | false=>match lenPV H x with
    | some n=>brn (emptyN n) (both fail (K (.val .bool false)) (K (.val .bool true))) (K (.val .bool true))
    | none=>fail
 | _=>fail
def isNilPtr:PV→Bool
 | .ptr _ _ | .bptr _ _ | .fn _ | .clo _ _=>false
 | _=>true
def isNil:Operand→Bool
 | .const (.slice none 0 0)=>true
 | _=>false
def opd (vs:List PV):Operand→PV
 | .tmp t=>slotAt vs t
 | .const (.int k n)=>match decide (k.wrap n = n) with
  | true=>.val (.int k) (I.of k n)
  | false=>.undef
 | .const (.bool b)=>.val .bool b
 | .const (.slice none 0 0)=>.nils
 | .const (.pointer none)=>.npt
 | .const (.string s)=>match Nat.ble s.data.toList.length 1048576 with
  | true=>.val .str (s.data.toList.map fun c=>I.of .u8 c.toNat)
  | false=>.undef
 | .func f=>.fn f
 | _=>.undef
def tuple:List PV→PV
 | []=>.tup (.val .nil ())
 | [v]=>v
 | l=>.tup (l.foldr .pair (.val .nil ()))
def renPV (f:Nat→Nat):PV→PV
 | .pair a b=>.pair (renPV f a) (renPV f b)
 | .tup a=>.tup (renPV f a)
 | .ptr b p=>.ptr (f b) p
 | .whole b=>.whole (f b)
 | .row b lo n=>.row (f b) lo n
 | .aview b p lo n=>.aview (f b) p lo n
 | .iface t v=>.iface t (renPV f v)
 | .clo g v=>.clo g (renPV f v)
 | .cut b k=>.cut (f b) k
 | v=>v
def renBlk (f:Nat→Nat):Blk→Blk
 | .box t v=>.box t (renPV f v)
 | b=>b
def Ty.hasSl:Ty→Bool
 | .sl _=>true
 | .cons a b=>a.hasSl || b.hasSl
 | .arr _ t=>t.hasSl
 | _=>false
def Sh.hasSl:Sh→Bool
 | .pl t=>t.hasSl
 | .pair a b=>a.hasSl || b.hasSl
 | .bp _=>true
 | .iface _ s=>s.hasSl
 | .clo _ s=>s.hasSl
 | _=>false
def BSh.hasSl:BSh→Bool
 | .box _ s=>s.hasSl
 | .row t=>t.hasSl
def Tm.hasSl (τ:Tm):Bool:=τ.slots.any Sh.hasSl || τ.heap.any BSh.hasSl
def newBlks (nb:Nat):Nat→List Blk→List (Nat × Blk)
 | _,[]=>[]
 | i,b :: l=>(nb + i,renBlk (fun k=>nb + k) b) :: newBlks nb (i + 1) l
def optF {Y:Type} (fail:R) (o:Option Y) (k:Y→R):R :=
 match o with
 | some y=>k y
 | none=>fail
def blks:PV→List Nat
 | .pair a b=>blks a ++ blks b
 | .tup a=>blks a
 | .ptr b _=>[b]
 | .whole b=>[b]
 | .row b _ _=>[b]
 | .aview b _ _ _=>[b]
 | .iface _ v=>blks v
 | .clo _ v=>blks v
 | .cut b _=>[b]
 | _=>[]
def blksL:List PV→List Nat
 | []=>[]
 | v :: l=>blks v ++ blksL l
def deep (H:List Blk):List Nat→List Nat
 | []=>[]
 | b :: l=>(match a0K H b with | .box _ v=>blks v | _=>[]) ++ deep H l
def rdC (H:List Blk) (l:List Nat):List Nat:=l ++ deep H l
def memN:Nat→List Nat→Bool
 | _,[]=>false
 | b,c :: l=>Nat.beq b c || memN b l
def keepN:List BSh→Nat
 | .box _ _ :: l=>keepN l + 1
 | _=>0
def keepOut:List BSh→List BSh→Bool
 | .box t _ :: l,.box u _ :: r=>Ty.beq t u && keepOut l r
 | .box _ _ :: _,_=>false
 | _,_=>true
def renK (σ:Sub) (keep nb i:Nat):Nat :=
 match Nat.ble (i + 1) keep with
 | true=>match σ.get i with
  | some j=>j
  | none=>0
 | false=>nb + (i - keep)
def unkept (σ:Sub) (keep:Nat):Nat→List Nat
 | 0=>[]
 | n + 1=>match Nat.ble keep n,σ.get n with
  | true,some j=>j :: unkept σ keep n
  | _,_=>unkept σ keep n
def bndLt (σ:Sub) (nb:Nat):Nat→Bool
 | 0=>true
 | n + 1=>(match σ.get n with | some j=>Nat.ble (j + 1) nb | none=>true) && bndLt σ nb n
def outK (σ:Sub) (keep nb:Nat):Nat→List Blk→List (Nat × Blk)
 | _,[]=>[]
 | i,b :: l=>(renK σ keep nb i,renBlk (renK σ keep nb) b) :: outK σ keep nb (i + 1) l
def lentK (all:Bool) (args:List Nat):List Nat→List Nat
 | []=>[]
 | b :: l=>match all || !memN b args with
  | true=>b :: lentK all args l
  | false=>lentK all args l
def callCon (fail:R) (c:Con) (args:List PV) (H:List Blk) (nb:Nat) (K:PV→List (Nat × Blk)→R):R :=
 match c.In.heap with
 | []=>match c.In.ext args H,Nat.beq args.length c.In.slots.length with
  | some (x,m),true =>
   optF fail (c.F x) fun y =>
    K (renPV (fun k=>nb + k) (tuple (a1U c.Out.slots y.1)))
     ((match c.Out.hasSl with | true=>kill m.lent | false=>[]) ++ newBlks nb 0 (mkHeap c.Out.heap y.2))
  | _,_=>fail
 | _=>match c.In.ext args H with
  | some (x,m)=>match Nat.beq args.length c.In.slots.length && (keepOut c.In.heap c.Out.heap && (bndLt m.σ nb c.In.heap.length && m.lent.all fun j=>Nat.ble (j + 1) nb)) with
   | true=>optF fail (c.F x) fun y =>
    K (renPV (renK m.σ (keepN c.In.heap) nb) (tuple (a1U c.Out.slots y.1)))
     (kill (lentK c.Out.hasSl (blksL args) m.lent) ++ (kill (unkept m.σ (keepN c.In.heap) c.In.heap.length) ++ outK m.σ (keepN c.In.heap) nb 0 (mkHeap c.Out.heap y.2)))
   | false=>fail
  | none=>fail
def freshTy:Ty→Bool
 | .sl t=>!t.hasSl
 | t=>!t.hasSl
def freshSh:Sh→Bool
 | .pl t=>freshTy t
 | _=>false
def callFresh (fail:R) (c:Con) (args:List PV) (H:List Blk) (nb:Nat) (K:PV→List (Nat × Blk)→R):R :=
 match c.In.heap,c.Out.heap,c.Out.slots.all freshSh with
 | [],[],true=>match c.In.ext args H,Nat.beq args.length c.In.slots.length with
  | some (x,_),true=>optF fail (c.F x) fun y=>K (tuple (a1U c.Out.slots y.1)) []
  | _,_=>fail
 | _,_,_=>fail
def lentE (t:Ty) (l:List Nat):List Nat :=
 match t.hasSl with
 | true=>l
 | false=>[]
def appendPV (fail:R) (H:List Blk) (nb:Nat) (t:Ty) (x y:PV) (K:PV→List (Nat × Blk)→R):R :=
 match toVal H (.sl t) y with
 | some (ys,lent) =>
  match x with
  | .nils=>obl fail (a1Z (a1I (show List t.D from ys))) (K (.whole nb) (kill (lentE t lent) ++ [(nb,.row t ys)]))
  | .whole b=>match a0K H b with
   | .row u l=>match Ty.cast (.sl u) (.sl t) l with
    | some xs=>match lent.any (Nat.beq b) with
     | true=>fail
     | false=>obl fail (a1Z (a1I (appL (show List t.D from xs) (show List t.D from ys)))) (K (.whole nb) (kill (lentE t lent) ++ [(b,.dead),(nb,.row t (appL (show List t.D from xs) (show List t.D from ys)))]))
    | none=>fail
   | _=>fail
  | .cut b n=>match a0K H b with
   | .row u l=>match Ty.cast (.sl u) (.sl t) l with
    | some xs=>match lent.any (Nat.beq b) with
     | true=>fail
     | false=>obl fail (a1Z (a1I (appL (subL (show List t.D from xs) 0 n) (show List t.D from ys)))) (brn (emptyN (a1I (show List t.D from ys))) (K (.row b 0 n) []) (K (.whole nb) (kill (lentE t lent) ++ [(nb,.row t (appL (subL (show List t.D from xs) 0 n) (show List t.D from ys)))])))
    | none=>fail
   | _=>fail
  | _=>fail
 | none=>fail
def copyPV (fail:R) (H:List Blk) (t:Ty) (x y:PV) (K:PV→List (Nat × Blk)→R):R :=
 match t,x,y with
 | .int k,.aview b [] 0 m,.aview b2 [] lo n=>match a0K H b,a0K H b2 with
  | .box (.arr m' (.int k')) v,.box _ (.val (.arr m2 u) z)=>match Ty.cast (.arr m2 u) (.arr m2 (.int k)) z with
   | some z'=>match Nat.beq m' m && (Ty.beq (.int k') (.int k) && (Nat.beq n m && (Nat.ble 1 m && Nat.ble m 1048576))) with
    | true=>K (.val (.int .i64) (I.ofNat .i64 m)) [(b,.box (.arr m (.int k)) (.val (.arr m (.int k)) (Arr.ofList (I.of k 0) m (subL (Arr.list m2 z') lo m))))]
    | false=>fail
   | none=>fail
  | _,_=>fail
 | _,_,_=>fail
def tyAt:Ty→List Step→Option Ty
 | t,[]=>some t
 | .cons a _,.fld 0 :: p=>tyAt a p
 | .cons _ b,.fld (j + 1) :: p=>tyAt b (.fld j :: p)
 | .arr _ t,.idx _ :: p=>tyAt t p
 | _,_=>none
def tyIs (s:Ty) (p:List Step) (t:Ty):Bool :=
 match tyAt s p with
 | some u=>Ty.beq u t
 | none=>false
def ptrIs (H:List Blk) (b:Nat) (p:List Step) (t:Ty):Bool :=
 match a0K H b with
 | .box s _=>tyIs s p t
 | .row s _=>match p with
  | .idx _ :: p=>tyIs s p t
  | _=>false
 | _=>false
def slcLen (E:Env) (H:List Blk) (id:Nat) (x:PV):Option Nat :=
 match E.ty id with
 | some (.arr n _)=>some n
 | _=>lenPV H x
def slcBounds (n:Option Nat) (lo hi:Bool) (bs:List PV):Option (Nat × (Bool × Nat) × (Bool × Nat)) :=
 match n with
 | none=>none
 | some n=>match lo,hi,bs with
  | false,false,[]=>some (n,(true,0),(true,n))
  | true,false,[.val (.int k) i]=>some (n,(inB' (k:=k) i n,I.nat (k:=k) i),(true,n))
  | false,true,[.val (.int k) j]=>some (n,(true,0),(inB' (k:=k) j n,I.nat (k:=k) j))
  | true,true,[.val (.int k) i,.val (.int l) j]=>some (n,(inB' (k:=k) i (I.nat (k:=l) j),I.nat (k:=k) i),(inB' (k:=l) j n,I.nat (k:=l) j))
  | _,_,_=>none
def fnSel (fail:R) (n:Nat) (K:PV→R):Nat→List (Option Nat)→R
 | _,[]=>fail
 | j,none :: r=>fnSel fail n K (j + 1) r
 | j,some f :: r=>brn (eqN n j) (K (.fn f)) (fnSel fail n K (j + 1) r)
def evOp (E:Env) (fail:R) (o:Oper) (args:List PV) (H:List Blk) (nb:Nat) (K:PV→List (Nat × Blk)→R):R :=
 match o.op with
 | .move _=>match args with
  | [x]=>K x []
  | _=>fail
 | .assign x=>match isNil x,E.ty o.type with
  | true,some (.sl t)=>K (.whole nb) [(nb,.row t [])]
  | _,_=>match args with
   | [x]=>K x []
   | _=>fail
 | .pick _ _ _=>match args with
  | [.val .bool c,.val .bool a,.val .bool b]=>K (.val .bool (bsel (show Bool from c) a b)) []
  | [.val .bool c,a,b]=>brn (show Bool from c) (K a []) (K b [])
  | _=>fail
 | .alloc e=>match E.ty e with
  | some t=>match t.zOk && !t.isOpq with
   | true=>match E.own e with
    | false=>K (.ptr nb []) [(nb,.box t (zeroPV t))]
    | true=>K (.ptr (nb + (ownNils t (zeroPV t) nb).2.length) []) ((ownNils t (zeroPV t) nb).2 ++ [(nb + (ownNils t (zeroPV t) nb).2.length,.box t (ownNils t (zeroPV t) nb).1)])
   | false=>fail
  | none=>fail
 | .box e _=>match E.ty e,args with
  | some t,[v]=>match fits v t with
   | true=>K (.ptr nb []) [(nb,.box t v)]
   | false=>fail
  | _,_=>fail
 | .makeInterface t _=>match E.ty t,args with
  | some _,[x]=>match plainPV x with
   | true=>K (.iface t x) []
   | false=>fail
  | _,_=>fail
 | .typeAssert _ _ asserted ok=>match E.ty asserted,args with
  | some _,[.iface t v]=>match Nat.beq t asserted with
   | true=>match ok with
    | true=>K (.tup (.pair v (.pair (.val .bool true) (.val .nil ())))) []
    | false=>K v []
   | false=>fail
  | _,_=>fail
 | .makeFunc (.func f) first _=>match Nat.beq first.size 0 && args.all oneC with
  | true=>K (cloPV f args) []
  | false=>match Nat.beq first.size 0 with
   | true=>fail
   | false=>K .undef []
 | .build id parts=>match E.ty id with
  | some t=>match t.zOk && (t.isAgg && t.bOk) with
   | true=>match fillPV t (zeroPV t) (zipNat (parts.toList.map (·.1)) args) with
    | some v=>match E.own id with
     | false=>K v []
     | true=>K (ownNils t v nb).1 (ownNils t v nb).2
    | none=>fail
   | false=>match t with
    | .arr n u=>match u.noOpq with
     | true=>match fillArr H u n (Ty.zero (.arr n u)) (zipNat (parts.toList.map (·.1)) args) with
      | some (x,lent)=>K (.val (.arr n u) x) (kill lent)
      | none=>fail
     | false=>fail
    | _=>fail
  | none=>fail
 | .buildSlice t len parts=>match E.ty t with
  | some (.sl t)=>match t.noOpq && Nat.ble (len * t.sz) 16777216 with
   | true=>match fillRow H t (repL len t.zero) (zipNat (parts.toList.map (·.1)) args) with
    | some (l,lent)=>obl fail (a1Z len) (K (.whole nb) (kill lent ++ [(nb,.row t l)]))
    | none=>fail
   | false=>fail
  | _=>fail
 | .load t _=>match E.ty t,args with
  | some t,[.ptr b p]=>match a0K H b with
   | .box s v=>match tyIs s p t with
    | true=>match getPath v p with
     | some u=>K u []
     | none=>fail
    | false=>fail
   | .row .fnc l=>match p with
    | [.idx i]=>match tyIs .fnc [] t with
     | true=>fnSel fail i (fun v=>K v []) 0 l
     | false=>fail
    | _=>fail
   | .row s l=>match p with
    | .idx i :: p=>match tyIs s p t with
     | true=>match getVal s (rdL s.zero l i) p with
      | some u=>K u []
      | none=>fail
     | false=>fail
    | _=>fail
   | _=>fail
  | some t,[.bptr u x]=>match Ty.beq u t with
   | true=>K (.val u x) []
   | false=>fail
  | _,_=>fail
 | .store t _ _=>match E.ty t,args with
  | some t,[.ptr b p,v]=>match fits v t with
   | true=>match a0K H b with
    | .box s c=>match tyIs s p t with
     | true=>match setPath v c p with
      | some c'=>K .undef [(b,.box s c')]
      | none=>fail
     | false=>fail
    | .row s l=>match p with
     | .idx i :: p=>match tyIs s p t with
      | true=>match toVal H t v with
       | some (y,lent)=>match putVal t y s (rdL s.zero l i) p,lent.any (Nat.beq b) with
        | some z,false=>K .undef (kill lent ++ [(b,.row s (setL l i z))])
        | _,_=>fail
       | none=>fail
      | false=>fail
     | _=>fail
    | _=>fail
   | false=>fail
  | _,_=>fail
 | .nilCheck _=>match args with
  | [x]=>match isNilPtr x with
   | true=>fail
   | false=>K x []
  | _=>fail
 | .binOp op t _ _ _=>match args with
  | [x,y]=>binPV fail op (E.eqT t) x y fun v=>K v []
  | _=>fail
 | .unOp op _ _=>match args with
  | [x]=>unPV fail op x fun v=>K v []
  | _=>fail
 | .convert s d _=>match E.ty s,E.ty d,args with
  | some (.int _),some (.int l),[.val (.int k) a]=>K (.val (.int l) (I.conv (k:=k) l a)) []
  | some .str,some .str,[.val .str x]=>K (.val .str x) []
  | some (.sl (.int .u8)),some .str,[x]=>match toVal H (.sl (.int .u8)) x with
   | some (l,_)=>K (.val .str (show List (I .u8) from l)) []
   | none=>fail
  | _,_,_=>fail
 | .fieldAddr id _ f=>match E.ty id,args with
  | some t,[.ptr b p]=>match offTy t [.fld f] with
   | some (_,u)=>match ptrIs H b p t && Nat.ble 1 u.sz with
    | true=>K (.ptr b (p ++ [.fld f])) []
    | false=>fail
   | none=>fail
  | some t,[.bptr v x]=>match Ty.cast v t x,offTy t [.fld f] with
   | some y,some (_,u)=>match Nat.ble 1 u.sz,getVal t y [.fld f] with
    | true,some (.val w z)=>K (.bptr w z) []
    | _,_=>fail
   | _,_=>fail
  | _,_=>fail
 | .field id _ f=>match E.ty id,args with
  | some t,[x]=>match fits x t,offTy t [.fld f],getPath x [.fld f] with
   | true,some _,some v=>K v []
   | _,_,_=>fail
  | _,_=>fail
 | .indexAddr id _ _=>match E.ty id,args with
  | some (.arr n u),[.ptr b p,.val (.int k) i]=>match ptrIs H b p (.arr n u) with
   | true=>obl fail (inB (k:=k) i n) (K (.ptr b (p ++ [.idx (I.nat (k:=k) i)])) [])
   | false=>fail
  | some (.arr n u),[.bptr v x,.val (.int k) i]=>match Ty.cast v (.arr n u) x with
   | some y=>obl fail (inB (k:=k) i n) (K (.bptr u (Arr.sel u.zero n y (I.nat (k:=k) i))) [])
   | none=>fail
  | some (.sl u),[.whole b,.val (.int k) i]=>match a0K H b with
   | .row s l=>match Ty.beq s u with
    | true=>obl fail (inB (k:=k) i (a1I l)) (K (.ptr b [.idx (I.nat (k:=k) i)]) [])
    | false=>fail
   | _=>fail
  | some (.sl u),[.row b lo n,.val (.int k) i]=>match a0K H b with
   | .row s _=>match Ty.beq s u with
    | true=>obl fail (inB (k:=k) i n) (K (.ptr b [.idx (lo + I.nat (k:=k) i)]) [])
    | false=>fail
   | _=>fail
  | some (.sl u),[.val t x,.val (.int k) i]=>match Ty.cast t (.sl u) x with
   | some y=>obl fail (inB (k:=k) i (a1I (show List u.D from y))) (K (.bptr u (rdL u.zero y (I.nat (k:=k) i))) [])
   | none=>fail
  | _,_=>fail
 | .index id _ _=>match E.ty id,args with
  | some (.arr n u),[.val t x,.val (.int k) i]=>match Ty.cast t (.arr n u) x with
   | some y=>obl fail (inB (k:=k) i n) (K (.val u (Arr.sel u.zero n y (I.nat (k:=k) i))) [])
   | none=>fail
  | some .str,[.val .str x,.val (.int k) i]=>obl fail (inB (k:=k) i (a1I (show List (I .u8) from x))) (K (.val (.int .u8) (rdL (I.of .u8 0) (show List (I .u8) from x) (I.nat (k:=k) i))) [])
  | _,_=>fail
 | .slice id _ lo hi mx=>match mx,args with
  | some _,[.whole b,.val (.int k) i,.val (.int l) j]=>match lo,hi,E.ty id,a0K H b with
   | none,some _,some (.sl t),.row s xs=>match Ty.beq s t with
    | true=>obl fail (inB' (k:=k) i (a1I xs)) (obl fail (eqV (k:=k) (l:=l) i j) (K (.cut b (I.nat (k:=k) i)) []))
    | false=>fail
   | _,_,_,_=>fail
  | some _,[.val u y,.val (.int k) i,.val (.int l) j]=>match lo,hi,E.ty id with
   | none,some _,some (.sl t)=>match Ty.cast u (.sl t) y with
    | some y=>obl fail (inB' (k:=k) i (a1I (show List t.D from y))) (obl fail (eqV (k:=k) (l:=l) i j) (K (.val (.sl t) (subL (show List t.D from y) 0 (I.nat (k:=k) i))) []))
    | none=>fail
   | _,_,_=>fail
  | none,x :: bs=>match slcBounds (slcLen E H id x) lo.isSome hi.isSome bs with
   | some (n,b1,b2) =>
    oblIf lo.isSome fail b1.1 (oblIf hi.isSome fail b2.1 (match E.ty id,x with
     | some (.sl t),.nils=>K .nils []
     | some (.sl t),.val u y=>match Ty.cast u (.sl t) y with
      | some y=>K (.val (.sl t) (subL (show List t.D from y) b1.2 (b2.2 - b1.2))) []
      | none=>fail
     | some (.sl t),.whole b=>match a0K H b with
      | .row s l=>match Ty.beq s t with
       | true=>match E.own id && !lo.isSome with
        | true=>K (.whole nb) [(b,.dead),(nb,.row s (subL l 0 b2.2))]
        | false=>K (.row b b1.2 (b2.2 - b1.2)) []
       | false=>fail
      | _=>fail
     | some (.sl t),.row b s _=>match a0K H b with
      | .row u l=>match Ty.beq u t with
       | true=>K (.row b (s + b1.2) (b2.2 - b1.2)) []
       | false=>fail
      | _=>fail
     | some (.arr m t),.ptr b p=>match ptrIs H b p (.arr m t) && Nat.ble m 1048576 with
      | true=>match a0K H b with
       | .box _ _=>K (.aview b p b1.2 (b2.2 - b1.2)) []
       | _=>fail
      | false=>fail
     | some (.arr m t),.bptr u y=>match Ty.cast u (.arr m t) y with
      | some y=>match Nat.ble m 1048576 with
       | true=>K (.val (.sl t) (subL (Arr.list m y) b1.2 (b2.2 - b1.2))) []
       | false=>fail
      | none=>fail
     | some .str,.val .str y=>K (.val .str (subL (show List (I .u8) from y) b1.2 (b2.2 - b1.2))) []
     | _,_=>fail))
   | none=>fail
  | _,_=>fail
 | .extract _ i=>match args with
  | [.tup a]=>match tupAt a i with
   | some v=>K v []
   | none=>fail
  | _=>fail
 | .makeSlice t _ _=>match E.ty t,args with
  | some (.sl t),[.val (.int k) n,.val (.int l) c]=>match t.noOpq with
   | true=>obl fail (inB' (k:=k) n (I.nat (k:=l) c)) (obl fail (inB' (k:=l) c 1073741824) (K (.whole nb) [(nb,.row t (repD (I.nat (k:=k) n) t.zero))]))
   | false=>fail
  | _,_=>fail
 | .call c=>match c.callee with
  | .builtin .len=>match args,E.ty (c.argTypes.getD 0 0),Nat.ble 1 c.argTypes.size with
   | [x],some t,true=>match lenOf H t x with
    | some n=>K (.val (.int .i64) (I.ofNat .i64 n)) []
    | none=>fail
   | _,_,_=>fail
  | .builtin .cap=>match args,E.ty (c.argTypes.getD 0 0),Nat.ble 1 c.argTypes.size with
   | [.nils],some (.sl _),true=>K (.val (.int .i64) (I.ofNat .i64 0)) []
   | _,_,_=>fail
  | .builtin .append=>match E.ty (c.argTypes.getD 0 0),args with
   | some (.sl t),[x,y]=>match t.noOpq && (Nat.ble 1 t.sz && (Nat.beq (c.argTypes.getD 1 0) (c.argTypes.getD 0 0) && Nat.beq c.argTypes.size 2)) with
    | true=>appendPV fail H nb t x y K
    | false=>match t.noOpq && (Nat.ble 1 t.sz && Nat.beq c.argTypes.size 2) with
     | true=>match E.ty (c.argTypes.getD 1 0) with
      | some (.int _)=>match x,y with
       | .nils,.val (.int kn) n=>obl fail (I.ltb (k:=kn) (I.of kn 0) n) (obl fail (inB' (k:=kn) n 1073741824) (K (.whole nb) [(nb,.row t (zrow (I.nat (k:=kn) n) t.zero))]))
       | _,_=>fail
      | _=>fail
     | false=>fail
   | _,_=>fail
  | .builtin .copy=>match E.ty (c.argTypes.getD 0 0),args with
   | some (.sl t),[x,y]=>match Nat.beq c.argTypes.size 2 with
    | true=>copyPV fail H t x y K
    | false=>fail
   | _,_=>fail
  | .builtin .min=>match args with
   | [.val (.int k) a,.val (.int l) b]=>match Ty.cast (.int l) (.int k) b with
    | some b=>K (.val (.int k) (I.mn (k:=k) a b)) []
    | none=>fail
   | _=>fail
  | .builtin .max=>match args with
   | [.val (.int k) a,.val (.int l) b]=>match Ty.cast (.int l) (.int k) b with
    | some b=>K (.val (.int k) (I.mx (k:=k) a b)) []
    | none=>fail
   | _=>fail
  | .value _=>match args with
   | .fn f :: vs=>match E.how f with
    | some (.con c)=>callCon fail c vs H nb K
    | some (.fresh c)=>callFresh fail c vs H nb K
    | _=>fail
   | _=>fail
  | _=>fail
 | _=>fail
end
end Sym

/- The symbolic evaluator: regions and code. -/
namespace Sym
open Go
noncomputable section
structure St where
 slots:List PV
 stk:List (List PV)
 heap:List Blk
def putBlk:List Blk→Nat→Blk→List Blk
 | [],0,b=>[b]
 | [],n + 1,b=>.unborn :: putBlk [] n b
 | _ :: l,0,b=>b :: l
 | x :: l,n + 1,b=>x :: putBlk l n b
def putBlks:List Blk→List (Nat × Blk)→List Blk
 | H,[]=>H
 | H,(i,b) :: l=>putBlks (putBlk H i b) l
def putSlot (vs:List PV) (d:Option Nat) (v:PV):List PV :=
 match d with
 | some d=>setAt vs d v
 | none=>vs
def undefPV:PV:=.tup (.val .nil ())
structure Kt (R:Type) where
 norm:St→R
 exit:Nat→St→R
 ret:St→R
def lastOps (ops:Array Oper) (g:Nat):Option Nat:=(ops[g]?).bind (·.dst)
def guardK {R:Type} (fail:R) (ops:Array Oper) (o:Oper) (st:St) (run skip:St→R):R :=
 match o.guard with
 | none=>run st
 | some (g,want)=>match lastOps ops g with
  | none=>fail
  | some d=>match slotAt st.slots d with
   | .val .bool c=>brn (show Bool from c)
    (match want with | true=>run ⟨setAt st.slots d (.val .bool true),st.stk,st.heap⟩ | false=>skip ⟨setAt st.slots d (.val .bool true),st.stk,st.heap⟩)
    (match want with | false=>run ⟨setAt st.slots d (.val .bool false),st.stk,st.heap⟩ | true=>skip ⟨setAt st.slots d (.val .bool false),st.stk,st.heap⟩)
   | .tup (.val .nil _)=>skip st
   | _=>fail
def target (E:Env) (H:List Blk) (o:Oper) (args:List PV):Option (FuncId × List PV) :=
 match o.op with
 | .call c=>match c.callee with
  | .value _=>match args with
   | .fn f :: vs=>some (f,vs)
   | .clo f cap :: vs=>match capOk cap with
    | true=>some (f,vs ++ capList cap)
    | false=>none
   | _=>none
  | .invoke _ name=>match args with
   | .iface t v :: vs=>match E.meth t name with
    | some (f,none)=>some (f,v :: vs)
    | some (f,some e)=>match E.ty e,v with
     | some u,.ptr b p=>match a0K H b with
      | .box s x=>match tyIs s p u,getPath x p with
       | true,some y=>some (f,y :: vs)
       | _,_=>none
      | _=>none
     | _,_=>none
    | none=>none
   | _=>none
  | _=>none
 | _=>none
def isInl (E:Env) (H:List Blk) (o:Oper) (args:List PV):Option (FuncId × List PV) :=
 match target E H o args with
 | some (f,vs)=>match E.how f with
  | some .inl=>some (f,vs)
  | _=>none
 | none=>none
def isFn:List PV→Bool
 | .fn _ :: _=>true
 | _=>false
def isVia (E:Env) (H:List Blk) (o:Oper) (args:List PV):Option (FuncId × Con × List PV) :=
 match isFn args with
 | true=>none
 | false=>match target E H o args with
  | some (f,vs)=>match E.how f with
   | some (.con C)=>some (f,C,vs)
   | _=>none
  | none=>none
def nilOp (E:Env) (o:Oper) (args:List PV):Option (BinOp × PV) :=
 match o.op with
 | .binOp op t _ _ _=>match args with
  | [x,.nils]=>match E.ty t with
   | some (.sl _)=>some (op,x)
   | _=>none
  | _=>none
 | _=>none
def argsOf (o:Oper) (st:St):List PV:=o.op.operands.toList.map (opd st.slots)
def St.put (st:St) (d:Option Nat) (pv:PV) (δ:List (Nat × Blk)):St:=⟨putSlot st.slots d pv,st.stk,putBlks st.heap δ⟩
def evSeq (E:Env) {R:Type} (fail:R) (inl:Nat→FuncId→List PV→St→(PV→St→R)→R) (ops:Array Oper):Nat→List Oper→St→(St→R)→R
 | _,[],st,K=>K st
 | i,o :: l,st,K =>
  guardK fail ops o st
   (fun st=>match isInl E st.heap o (argsOf o st) with
    | some (f,vs)=>inl i f vs st fun pv st=>evSeq E fail inl ops (i + 1) l (st.put o.dst pv []) K
    | none=>match isVia E st.heap o (argsOf o st) with
     | some (_,C,vs)=>callCon fail C vs st.heap st.heap.length fun pv δ=>evSeq E fail inl ops (i + 1) l (st.put o.dst pv δ) K
     | none=>match nilOp E o (argsOf o st) with
     | some (op,x)=>nilCmp fail op st.heap x fun pv=>evSeq E fail inl ops (i + 1) l (st.put o.dst pv []) K
     | none=>evOp E fail o (argsOf o st) st.heap st.heap.length fun pv δ=>evSeq E fail inl ops (i + 1) l (st.put o.dst pv δ) K)
   (fun st=>evSeq E fail inl ops (i + 1) l (st.put o.dst undefPV []) K)
def rdOf (o:Oper) (args:List PV) (H:List Blk):List Nat :=
 match o.op with
 | .move _=>[]
 | .assign _=>[]
 | .makeInterface _ _=>[]
 | .extract _ _=>[]
 | .call k=>match k.callee with
  | .value _=>rdC H (blksL args)
  | _=>blksL args
 | _=>blksL args
structure Ent where
 i:Nat
 rd:List Nat
 wr:List Nat
def disj:List Nat→List Nat→Bool
 | [],_=>true
 | b :: l,r=>!memN b r && disj l r
def entOk (m:Nat) (rd wr:List Nat):List Ent→Bool
 | []=>true
 | e :: l=>(m.testBit e.i || (disj e.wr rd && (disj e.wr wr && disj e.rd wr))) && entOk m rd wr l
def maskOf (acc:List Nat) (o:Oper):Nat :=
 o.after.toList.foldl (fun s e=>match Region.binds .any e with
  | true=>(s ||| 2 ^ e.on) ||| acc.getD e.on 0
  | false=>s) 0
def masks:List Oper→List Nat→List Nat
 | [],acc=>acc
 | o :: l,acc=>masks l (acc ++ [maskOf acc o])
def lastAll:Nat→List Nat→Option Nat
 | 0,_=>none
 | m + 1,ms=>match Nat.beq (ms.getD m 0) (2 ^ m - 1) with
  | true=>some m
  | false=>none
def apartOk (ops:Array Oper) (ms:List Nat):Bool :=
 (List.range ops.size).all fun j=>match ops[j]? with
  | some y=>(y.after.toList.all fun e=>!Region.binds .any e || Nat.ble (e.on + 1) j) && (List.range j).all fun i=>(ms.getD j 0).testBit i || match ops[i]? with
   | some x=>Oper.apart ops x y
   | none=>false
  | none=>false
def evDraw (E:Env) {R:Type} (fail:R) (ops:Array Oper) (ms:List Nat):Nat→List Oper→List Ent→St→(St→R)→R
 | _,[],_,st,K=>K st
 | i,o :: l,log,st,K =>
  guardK fail ops o st
   (fun st=>evOp E fail o (argsOf o st) st.heap st.heap.length fun pv δ =>
    match entOk (ms.getD i 0) (rdOf o (argsOf o st) st.heap) (δ.map (·.1)) log with
    | true=>evDraw E fail ops ms (i + 1) l (⟨i,rdOf o (argsOf o st) st.heap,δ.map (·.1)⟩ :: log) (st.put o.dst pv δ) K
    | false=>fail)
   (fun st=>evDraw E fail ops ms (i + 1) l log (st.put o.dst undefPV []) K)
inductive Stp (X R:Type) where
 | again (x:X)
 | done (r:R)
def iter {X R:Type} (fail:R) (f:X→Stp X R):Nat→X→R
 | 0,_=>fail
 | k + 1,x=>match f x with
  | .again y=>iter fail f k y
  | .done r=>r
def unroll {X R:Type} (fail:R) (f:(X→R)→X→R):Nat→X→R
 | 0,_=>fail
 | n + 1,x=>f (unroll fail f n) x
inductive Ann where
 | unroll (n:Nat)
 | tmpl (τ:Tm)
 | join (τ:Tm)
def jn {X R:Type} (J:X→R) (f:(X→R)→R):R:=f J
def codeId:Code→Nat
 | .region id _ _=>id + 1
 | .seq a b=>match codeId a with | 0=>codeId b | n + 1=>n + 1
 | .cond _ a b=>match codeId a with | 0=>codeId b | n + 1=>n + 1
 | .block _ b=>codeId b
 | .loop b=>codeId b
 | .scope b=>codeId b
 | _=>0
def cutList {X:Type}:List Nat→List X→List (List X)
 | [],_=>[]
 | n :: ns,l=>l.take n :: cutList ns (l.drop n)
def stOf (lens:List Nat) (τ:Tm) (x:τ.D):St :=
 match cutList lens (a1U τ.slots x.1) with
 | s :: r=>⟨s,r,mkHeap τ.heap x.2⟩
 | []=>⟨[],[],mkHeap τ.heap x.2⟩
def St.flat (st:St):List PV:=st.slots ++ st.stk.flatten
def St.lens (st:St):List Nat:=st.slots.length :: st.stk.map List.length
def resGo (E:Env) (st:St):List ResultVar→Option (List PV)
 | []=>some []
 | .tmp t :: l=>match plainPV (slotAt st.slots t) with
  | true=>match resGo E st l with
   | some r=>some (slotAt st.slots t :: r)
   | none=>none
  | false=>none
 | .cell a t :: l=>match E.ty t,slotAt st.slots a with
  | some u,.ptr b p=>match a0K st.heap b with
   | .box s v=>match tyIs s p u,getPath v p with
    | true,some v=>match resGo E st l with
     | some r=>some (v :: r)
     | none=>none
    | _,_=>none
   | _=>none
  | _,_=>none
def resPV (E:Env) (fn:Func) (st:St):Option (List PV):=resGo E st fn.results.toList
def frame (fn:Func) (args:List PV):List PV:=args ++ repL (fn.ntmps - args.length) undefPV
abbrev Anns:=List Nat→Nat→Option Ann
def ev (E:Env) (A:Anns) (k:Nat):Nat→(R:Type)→R→List Nat→Nat→Code→Kt R→St→R
 | 0,_,fail,_,_,_,_,_=>fail
 | n + 1,R,fail,path,cur,c,K,st =>
  match c with
  | .skip=>K.norm st
  | .seq a b=>match A (1000000 :: path) (codeId b) with
   | some (.join τ)=>match Nat.beq τ.slots.length st.flat.length with
    | true =>
     let lens:=st.lens
     jn (fun x=>ev E A k n R fail path cur b K (stOf lens τ x)) fun J =>
      ev E A k n R fail path cur a ⟨fun st=>match τ.ext st.flat st.heap with | some (x,_)=>J x | none=>fail,K.exit,K.ret⟩ st
    | false=>fail
   | _=>ev E A k n R fail path cur a ⟨fun st=>ev E A k n R fail path cur b K st,K.exit,K.ret⟩ st
  | .cond o x y=>match opd st.slots o with
   | .val .bool b=>brn (show Bool from b) (ev E A k n R fail path cur x K st) (ev E A k n R fail path cur y K st)
   | _=>fail
  | .block id b=>ev E A k n R fail path id b ⟨K.norm,fun i st=>match Nat.beq i id with | true=>K.norm st | false=>K.exit i st,K.ret⟩ st
  | .exit id=>K.exit id st
  | .ret=>K.ret st
  | .region id ops draw =>
   let inl (i:Nat) (f:FuncId) (vs:List PV) (st:St) (next:PV→St→R):R :=
    match E.P.funcs[f]? with
    | some fn=>match fn.body with
     | some c =>
      let fin (s:St):R:=match resPV E fn s,s.stk with
       | some rs,s0 :: r=>next (tuple rs) ⟨s0,r,s.heap⟩
       | _,_=>fail
      ev E A k n R fail (f :: id :: i :: path) 0 c ⟨fin,fun _ _=>fail,fin⟩ ⟨frame fn vs,st.slots :: st.stk,st.heap⟩
     | none=>fail
    | none=>fail
   match draw with
   | false=>evSeq E fail inl ops 0 ops.toList st K.norm
   | true=>match apartOk ops (masks ops.toList []) with
    | true=>match lastAll ops.size (masks ops.toList []) with
     | some m=>evDraw E fail ops (masks ops.toList []) 0 (ops.toList.take m) [] st fun st=>evSeq E fail inl ops m (ops.toList.drop m) st K.norm
     | none=>evDraw E fail ops (masks ops.toList []) 0 ops.toList [] st K.norm
    | false=>fail
  | .loop b=>match A path cur with
   | some (.unroll m)=>unroll fail (fun again st=>ev E A k n R fail path cur b ⟨again,K.exit,K.ret⟩ st) m st
   | some (.tmpl τ)=>match τ.ext st.flat st.heap,Nat.beq τ.slots.length st.flat.length with
    | some (x,_),true =>
     let lens:=st.lens
     iter fail (fun x=>ev E A k n (Stp τ.D R) (.done fail) path cur b
      ⟨fun st=>match τ.ext st.flat st.heap with | some (y,_)=>.again y | none=>.done fail,fun i st=>.done (K.exit i st),fun st=>.done (K.ret st)⟩ (stOf lens τ x)) k x
    | _,_=>fail
   | _=>fail
  | _=>fail
def headL:List (List PV)→List PV
 | []=>[]
 | s :: _=>s
def keepPs:Nat→Nat→List PV
 | _,0=>[]
 | i,n + 1=>.ptr i [] :: keepPs (i + 1) n
def keepStk (l:List BSh):List (List PV) :=
 match keepN l with
 | 0=>[]
 | n + 1=>[keepPs 0 (n + 1)]
def finOut (E:Env) (fn:Func) (Out:Tm) (st:St):Option Out.D :=
 match resPV E fn st,bindK (headL st.stk) 0 [] with
 | some rs,some σ=>match Out.extF ⟨σ,[]⟩ rs st.heap,Nat.beq rs.length Out.slots.length && Out.slots.all (fun s=>!s.isDead) with
  | some (y,_),true=>some y
  | _,_=>none
 | _,_=>none
def evalFn (E:Env) (A:Anns) (f:FuncId) (In Out:Tm) (n k:Nat) (x:In.D):Option Out.D :=
 match E.P.funcs[f]? with
 | some fn=>match fn.body with
  | some c=>ev E A k n (Option Out.D) none [f] 0 c ⟨finOut E fn Out,fun _ _=>none,finOut E fn Out⟩ ⟨frame fn (a1U In.slots x.1),keepStk In.heap,mkHeap In.heap x.2⟩
  | none=>none
 | none=>none
end
end Sym

/- How a plain value lies in cells, and that parts of it are read and written where their offsets say. -/
namespace Sym
open Go
def EncArr {X:Type} (E:X→List Value→Prop):(n:Nat)→Arr X n→List Value→Prop
 | 0,_,cs=>cs = []
 | n + 1,x,cs=>∃ c1 c2,cs = c1 ++ c2∧E x.1 c1∧EncArr E n x.2 c2
def cellsAt (w:World) (b off:Nat) (ds:List Value):Prop:=∀ j d,ds[j]? = some d→w.cell? ⟨b,off + j,none⟩ = some d
def rowAt {X:Type} (w:World) (E:X→List Value→Prop) (sz b off:Nat) (l:List X):Prop :=
 ∀ i x,l[i]? = some x→∃ ds,E x ds∧cellsAt w b (off + i * sz) ds
def bytesOf (l:List (I .u8)):ByteArray:=⟨(l.map fun c=>UInt8.ofNat c.val.toNat).toArray⟩
def fnV:Option Nat→Value
 | none=>.nilFunc
 | some f=>.func (.func f) #[] #[]
theorem fnV_eq (x:Option Nat) {v:Value} (h:fnV x = v):v = .nilFunc ∨ ∃ f,v = .func (.func f) #[] #[]:=by
 cases x with
 | none=>exact .inl h.symm
 | some f=>exact .inr ⟨f,h.symm⟩
def Enc (w:World) (G:Nat→Prop):(t:Ty)→t.D→List Value→Prop
 | .int k,x,cs=>cs = [.int k (show I k from x).val]
 | .bool,x,cs=>cs = [.bool (show Bool from x)]
 | .str,x,cs=>cs = [.string (bytesOf x)]∧(show List (I .u8) from x).length ≤ LIM
 | .nil,_,cs=>cs = []
 | .cons a b,x,cs=>∃ c1 c2,cs = c1 ++ c2∧Enc w G a x.1 c1∧Enc w G b x.2 c2
 | .arr n t,x,cs=>EncArr (Enc w G t) n x cs
 | .sl t,x,cs=>∃ a c,cs = [.slice a (show List t.D from x).length c]∧(show List t.D from x).length ≤ c∧(show List t.D from x).length ≤ LIM ∧
   ((show List t.D from x) = [] ∨ ∃ ad,a = some ad∧ad.spot = none∧G ad.block∧rowAt w (Enc w G t) t.sz ad.block ad.off x)
 | .opq,_,_=>False
 | .fnc,x,cs=>cs = [fnV x]
theorem EncArr_len {X:Type} {E:X→List Value→Prop} {s:Nat} (h:∀ x cs,E x cs→cs.length = s):∀ (n:Nat) (x:Arr X n) (cs:List Value),EncArr E n x cs→cs.length = n * s
 | 0,_,cs,he=>by simp only [EncArr] at he; subst he; simp
 | n + 1,x,cs,he=>by
  obtain ⟨c1,c2,rfl,h1,h2⟩:=he
  have:=EncArr_len h n x.2 c2 h2
  have:=h _ _ h1
  simp [Nat.succ_mul]; omega
theorem Enc_len {w:World} {G:Nat→Prop}:∀ (t:Ty) (x:t.D) (cs:List Value),Enc w G t x cs→cs.length = t.sz:=by
 intro t
 induction t with
 | int k=>intro x cs h; simp only [Enc] at h; subst h; rfl
 | bool=>intro x cs h; simp only [Enc] at h; subst h; rfl
 | str=>intro x cs h; obtain ⟨h,_⟩:=h; subst h; rfl
 | nil=>intro x cs h; simp only [Enc] at h; subst h; rfl
 | cons a b iha ihb=>intro x cs h; obtain ⟨c1,c2,rfl,h1,h2⟩:=h; simp [Ty.sz,iha _ _ h1,ihb _ _ h2]
 | arr n t ih=>intro x cs h; exact EncArr_len ih n x cs h
 | sl t _=>intro x cs h; obtain ⟨a,c,rfl,_⟩:=h; rfl
 | opq=>intro x cs h; exact h.elim
 | fnc=>intro x cs h; simp only [Enc] at h; subst h; rfl
theorem EncArr_mono {X:Type} {E E':X→List Value→Prop} (h:∀ x cs,E x cs→E' x cs):∀ (n:Nat) (x:Arr X n) (cs:List Value),EncArr E n x cs→EncArr E' n x cs
 | 0,_,_,he=>he
 | n + 1,x,cs,he=>by
  obtain ⟨c1,c2,e,h1,h2⟩:=he
  exact ⟨c1,c2,e,h _ _ h1,EncArr_mono h n x.2 c2 h2⟩
theorem cell?_of_heap {w w':World} {a:Addr} (h:w'.heap[a.block]? = w.heap[a.block]?):w'.cell? a = w.cell? a:=by
 simp only [World.cell?,h]
theorem Enc_mono {w w':World} {G G':Nat→Prop} (h:∀ b,G b→G' b∧w'.heap[b]? = w.heap[b]?):∀ (t:Ty) (x:t.D) (cs:List Value),Enc w G t x cs→Enc w' G' t x cs:=by
 intro t
 induction t with
 | int k=>intro x cs he; exact he
 | bool=>intro x cs he; exact he
 | str=>intro x cs he; exact he
 | nil=>intro x cs he; exact he
 | cons a b iha ihb=>intro x cs he; obtain ⟨c1,c2,e,h1,h2⟩:=he; exact ⟨c1,c2,e,iha _ _ h1,ihb _ _ h2⟩
 | arr n t ih=>intro x cs he; exact EncArr_mono ih n x cs he
 | sl t ih =>
  intro x cs he
  obtain ⟨a,c,e,hc,hl,hx⟩:=he
  refine ⟨a,c,e,hc,hl,?_⟩
  rcases hx with hx | ⟨ad,ha,hs,hG,hr⟩
  ·
   exact .inl hx
  ·
   refine .inr ⟨ad,ha,hs,(h _ hG).1,fun i x hi=>?_⟩
   obtain ⟨ds,h1,h2⟩:=hr i x hi
   exact ⟨ds,ih _ _ h1,fun j d hj=>(cell?_of_heap (a:=⟨ad.block,ad.off + i * t.sz + j,none⟩) (h _ hG).2).trans (h2 j d hj)⟩
 | opq=>intro x cs he; exact he.elim
 | fnc=>intro x cs he; exact he
theorem offTy_le:∀ (t:Ty) (p:List Step) (o:Nat) (u:Ty),offTy t p = some (o,u)→o + u.sz ≤ t.sz:=by
 intro t
 induction t with
 | cons a b iha ihb =>
  intro p o u h
  match p,h with
  | [],h=>simp only [offTy,Option.some.injEq,Prod.mk.injEq] at h; obtain ⟨rfl,rfl⟩:=h; simp
  | .fld 0 :: p,h=>have:=iha p o u h; simp only [Ty.sz]; omega
  | .fld (j + 1) :: p,h =>
   simp only [offTy] at h
   split at h
   ·
    rename_i o' t' he
    simp only [Option.some.injEq,Prod.mk.injEq] at h
    obtain ⟨rfl,rfl⟩:=h
    have:=ihb _ _ _ he
    simp only [Ty.sz]; omega
   ·
    cases h
  | .idx i :: p,h=>simp [offTy] at h
 | arr n t ih =>
  intro p o u h
  match p,h with
  | [],h=>simp only [offTy,Option.some.injEq,Prod.mk.injEq] at h; obtain ⟨rfl,rfl⟩:=h; simp
  | .fld 0 :: p,h=>simp [offTy] at h
  | .fld (j + 1) :: p,h=>simp [offTy] at h
  | .idx i :: p,h =>
   simp only [offTy] at h
   split at h
   ·
    rename_i hi
    split at h
    ·
     rename_i o' t' he
     simp only [Option.some.injEq,Prod.mk.injEq] at h
     obtain ⟨rfl,rfl⟩:=h
     have:=ih _ _ _ he
     simp only [Ty.sz]
     have h1:(i + 1) * t.sz ≤ n * t.sz:=Nat.mul_le_mul_right _ hi
     rw [Nat.succ_mul] at h1
     omega
    ·
     cases h
   ·
    cases h
 | _ =>
  intro p o u h
  match p,h with
  | [],h=>simp only [offTy,Option.some.injEq,Prod.mk.injEq] at h; obtain ⟨rfl,rfl⟩:=h; simp
  | .fld 0 :: p,h=>simp [offTy] at h
  | .fld (j + 1) :: p,h=>simp [offTy] at h
  | .idx i :: p,h=>simp [offTy] at h
theorem take_drop_append_left (c1 c2:List Value) (o s:Nat) (h:o + s ≤ c1.length):((c1 ++ c2).drop o).take s = (c1.drop o).take s:=by
 rw [List.drop_append_of_le_length (by omega),List.take_append_of_le_length (by simp; omega)]
theorem take_drop_append_right (c1 c2:List Value) (o s:Nat):((c1 ++ c2).drop (c1.length + o)).take s = (c2.drop o).take s:=by
 rw [← List.drop_drop,List.drop_append_of_le_length (by omega),List.drop_of_length_le (Nat.le_refl _)]
 simp
theorem EncArr_sel {X:Type} {E:X→List Value→Prop} {s:Nat} (hl:∀ x cs,E x cs→cs.length = s) (d:X):∀ (n:Nat) (x:Arr X n) (cs:List Value) (i:Nat),i < n→EncArr E n x cs →
  E (Arr.sel d n x i) ((cs.drop (i * s)).take s)
 | 0,_,_,_,hi,_=>by omega
 | n + 1,x,cs,0,_,he=>by
  obtain ⟨c1,c2,rfl,h1,_⟩:=he
  have:=hl _ _ h1
  simp only [Arr.sel,Nat.zero_mul,List.drop_zero]
  rw [List.take_append_of_le_length (by omega),List.take_of_length_le (by omega)]
  exact h1
 | n + 1,x,cs,i + 1,hi,he=>by
  obtain ⟨c1,c2,rfl,h1,h2⟩:=he
  have:=hl _ _ h1
  have:=EncArr_sel hl d n x.2 c2 i (by omega) h2
  simp only [Arr.sel]
  rw [show (i + 1) * s = c1.length + i * s by rw [Nat.succ_mul]; omega,take_drop_append_right]
  exact this
def splice (cs:List Value) (o:Nat) (us:List Value):List Value:=cs.take o ++ us ++ cs.drop (o + us.length)
theorem splice_len (cs us:List Value) (o:Nat) (h:o + us.length ≤ cs.length):(splice cs o us).length = cs.length:=by
 simp [splice]; omega
theorem splice_left (c1 c2 us:List Value) (o:Nat) (h:o + us.length ≤ c1.length):splice (c1 ++ c2) o us = splice c1 o us ++ c2:=by
 simp only [splice]
 rw [List.take_append_of_le_length (by omega),List.drop_append_of_le_length (by omega)]
 simp
theorem splice_right (c1 c2 us:List Value) (o:Nat):splice (c1 ++ c2) (c1.length + o) us = c1 ++ splice c2 o us:=by
 simp only [splice]
 rw [List.take_append,List.take_of_length_le (by omega),show c1.length + o - c1.length = o by omega,show c1.length + o + us.length = c1.length + (o + us.length) by omega,← List.drop_drop,
  List.drop_append_of_le_length (by omega),List.drop_of_length_le (Nat.le_refl _)]
 simp
theorem EncArr_upd {X:Type} {E:X→List Value→Prop} {s:Nat} (hl:∀ x cs,E x cs→cs.length = s) (v:X) (us:List Value) (hv:E v us):∀ (n:Nat) (x:Arr X n) (cs:List Value) (i:Nat),i < n→EncArr E n x cs →
  EncArr E n (Arr.upd n x i v) (splice cs (i * s) us)
 | 0,_,_,_,hi,_=>by omega
 | n + 1,x,cs,0,_,he=>by
  obtain ⟨c1,c2,rfl,h1,h2⟩:=he
  have l1:=hl _ _ h1
  have l2:=hl _ _ hv
  rw [Nat.zero_mul,splice_left _ _ _ _ (by omega)]
  refine ⟨us,c2,?_,hv,h2⟩
  congr 1
  simp [splice,List.drop_of_length_le (show c1.length ≤ us.length by omega)]
 | n + 1,x,cs,i + 1,hi,he=>by
  obtain ⟨c1,c2,rfl,h1,h2⟩:=he
  have l1:=hl _ _ h1
  rw [show (i + 1) * s = c1.length + i * s by rw [Nat.succ_mul]; omega,splice_right]
  exact ⟨c1,_,rfl,h1,EncArr_upd hl v us hv n x.2 c2 i (by omega) h2⟩
theorem enc_getVal {w:World} {G:Nat→Prop}:∀ (t:Ty) (x:t.D) (cs:List Value) (p:List Step) (o:Nat) (u:Ty) (v:PV),Enc w G t x cs→offTy t p = some (o,u)→getVal t x p = some v →
  ∃ y,v = .val u y∧Enc w G u y ((cs.drop o).take u.sz):=by
 intro t
 have base:∀ (t:Ty) (x:t.D) (cs:List Value) (o:Nat) (u:Ty) (v:PV),Enc w G t x cs→some (0,t) = some (o,u)→some (PV.val t x) = some v→∃ y,v = .val u y∧Enc w G u y ((cs.drop o).take u.sz):=by
  intro t x cs o u v he ho hv
  simp only [Option.some.injEq,Prod.mk.injEq] at ho hv
  obtain ⟨rfl,rfl⟩:=ho
  subst hv
  have:=Enc_len _ _ _ he
  exact ⟨x,rfl,by rw [List.drop_zero,List.take_of_length_le (by omega)]; exact he⟩
 induction t with
 | cons a b iha ihb =>
  intro x cs p o u v he ho hv
  match p,ho,hv with
  | [],ho,hv=>exact base _ x cs o u v he ho hv
  | .fld 0 :: p,ho,hv =>
   obtain ⟨c1,c2,rfl,h1,h2⟩:=he
   obtain ⟨y,rfl,hy⟩:=iha _ _ p o u v h1 ho hv
   have:=offTy_le a p o u ho
   have:=Enc_len _ _ _ h1
   exact ⟨y,rfl,by rw [take_drop_append_left _ _ _ _ (by omega)]; exact hy⟩
  | .fld (j + 1) :: p,ho,hv =>
   obtain ⟨c1,c2,rfl,h1,h2⟩:=he
   simp only [offTy] at ho
   split at ho
   ·
    rename_i o' t' he'
    simp only [Option.some.injEq,Prod.mk.injEq] at ho
    obtain ⟨rfl,rfl⟩:=ho
    obtain ⟨y,rfl,hy⟩:=ihb _ _ _ _ _ v h2 he' hv
    have:=Enc_len _ _ _ h1
    exact ⟨y,rfl,by rw [← this,take_drop_append_right]; exact hy⟩
   ·
    cases ho
  | .idx i :: p,ho,hv=>simp [offTy] at ho
 | arr n t ih =>
  intro x cs p o u v he ho hv
  match p,ho,hv with
  | [],ho,hv=>exact base _ x cs o u v he ho hv
  | .fld 0 :: p,ho,hv=>simp [offTy] at ho
  | .fld (j + 1) :: p,ho,hv=>simp [offTy] at ho
  | .idx i :: p,ho,hv =>
   simp only [offTy] at ho
   split at ho
   ·
    rename_i hi
    split at ho
    ·
     rename_i o' t' he'
     simp only [Option.some.injEq,Prod.mk.injEq] at ho
     obtain ⟨rfl,rfl⟩:=ho
     have hs:=EncArr_sel (fun x cs=>Enc_len t x cs) t.zero n x cs i hi he
     obtain ⟨y,rfl,hy⟩:=ih _ _ _ _ _ v hs he' hv
     have hle:=offTy_le _ _ _ _ he'
     refine ⟨y,rfl,?_⟩
     rw [List.drop_take,List.take_take,List.drop_drop,Nat.min_eq_left (by omega)] at hy
     exact hy
    ·
     cases ho
   ·
    cases ho
 | _ =>
  intro x cs p o u v he ho hv
  match p,ho,hv with
  | [],ho,hv=>exact base _ x cs o u v he ho hv
  | .fld 0 :: p,ho,hv=>simp [offTy] at ho
  | .fld (j + 1) :: p,ho,hv=>simp [offTy] at ho
  | .idx i :: p,ho,hv=>simp [offTy] at ho
theorem cast_eq {a b:Ty} {x:a.D} {y:b.D} (h:Ty.cast a b x = some y):∃ e:a = b,e ▸ x = y:=by
 unfold Ty.cast at h
 split at h
 ·
  rename_i he
  simp only [Option.some.injEq] at h
  exact ⟨Ty.beq_eq he,h⟩
 ·
  cases h
theorem enc_putVal {w:World} {G:Nat→Prop} (u':Ty) (y:u'.D) (us:List Value) (hy:Enc w G u' y us):∀ (t:Ty) (x:t.D) (cs:List Value) (p:List Step) (o:Nat) (u:Ty) (z:t.D),Enc w G t x cs→offTy t p = some (o,u)→putVal u' y t x p = some z →
  u' = u∧Enc w G t z (splice cs o us):=by
 intro t
 have base:∀ (t:Ty) (x:t.D) (cs:List Value) (o:Nat) (u:Ty) (z:t.D),Enc w G t x cs→some (0,t) = some (o,u)→Ty.cast u' t y = some z→u' = u∧Enc w G t z (splice cs o us):=by
  intro t x cs o u z he ho hv
  simp only [Option.some.injEq,Prod.mk.injEq] at ho
  obtain ⟨rfl,rfl⟩:=ho
  obtain ⟨e,rfl⟩:=cast_eq hv
  subst e
  have l1:=Enc_len _ _ _ he
  have l2:=Enc_len _ _ _ hy
  refine ⟨rfl,?_⟩
  simp only [splice,List.take_zero,List.nil_append,Nat.zero_add]
  rw [List.drop_of_length_le (by omega),List.append_nil]
  exact hy
 induction t with
 | cons a b iha ihb =>
  intro x cs p o u z he ho hv
  match p,ho,hv with
  | [],ho,hv=>exact base _ x cs o u z he ho hv
  | .fld 0 :: p,ho,hv =>
   obtain ⟨c1,c2,rfl,h1,h2⟩:=he
   change (match putVal u' y a x.1 p with | some z=>some ((z,x.2):a.D × b.D) | none=>none) = some z at hv
   split at hv
   ·
    rename_i z' hz
    have hv:=Option.some.inj hv
    subst hv
    obtain ⟨e,hz'⟩:=iha _ _ p o u z' h1 ho hz
    subst e
    have:=offTy_le a p o _ ho
    have:=Enc_len _ _ _ h1
    have:=Enc_len _ _ _ hy
    exact ⟨rfl,_,_,splice_left _ _ _ _ (by omega),hz',h2⟩
   ·
    cases hv
  | .fld (j + 1) :: p,ho,hv =>
   obtain ⟨c1,c2,rfl,h1,h2⟩:=he
   simp only [offTy] at ho
   split at ho
   ·
    rename_i o' t' he'
    simp only [Option.some.injEq,Prod.mk.injEq] at ho
    obtain ⟨rfl,rfl⟩:=ho
    change (match putVal u' y b x.2 (.fld j :: p) with | some z=>some ((x.1,z):a.D × b.D) | none=>none) = some z at hv
    split at hv
    ·
     rename_i z' hz
     have hv:=Option.some.inj hv
     subst hv
     obtain ⟨e,hz'⟩:=ihb _ _ _ _ _ z' h2 he' hz
     subst e
     have:=Enc_len _ _ _ h1
     exact ⟨rfl,c1,_,by rw [← this,splice_right],h1,hz'⟩
    ·
     cases hv
   ·
    cases ho
  | .idx i :: p,ho,hv=>simp [offTy] at ho
 | arr n t ih =>
  intro x cs p o u z he ho hv
  match p,ho,hv with
  | [],ho,hv=>exact base _ x cs o u z he ho hv
  | .fld 0 :: p,ho,hv=>simp [offTy] at ho
  | .fld (j + 1) :: p,ho,hv=>simp [offTy] at ho
  | .idx i :: p,ho,hv =>
   simp only [offTy] at ho
   split at ho
   ·
    rename_i hi
    split at ho
    ·
     rename_i o' t' he'
     simp only [Option.some.injEq,Prod.mk.injEq] at ho
     obtain ⟨rfl,rfl⟩:=ho
     change (match putVal u' y t (Arr.sel t.zero n x i) p with | some z=>some (Arr.upd n x i z) | none=>none) = some z at hv
     split at hv
     ·
      rename_i z' hz
      have hv:=Option.some.inj hv
      subst hv
      have hs:=EncArr_sel (fun x cs=>Enc_len t x cs) t.zero n x cs i hi he
      obtain ⟨e,hz'⟩:=ih _ _ _ _ _ z' hs he' hz
      subst e
      have hle:=offTy_le _ _ _ _ he'
      have l1:=EncArr_len (fun x cs=>Enc_len t x cs) n x cs he
      have l2:=Enc_len _ _ _ hy
      have h1:(i + 1) * t.sz ≤ n * t.sz:=Nat.mul_le_mul_right _ hi
      rw [Nat.succ_mul] at h1
      refine ⟨rfl,?_⟩
      have:=EncArr_upd (fun x cs=>Enc_len t x cs) z' _ hz' n x cs i hi he
      have e:splice cs (i * t.sz) (splice ((cs.drop (i * t.sz)).take t.sz) o' us) = splice cs (i * t.sz + o') us:=by
       have l3:(splice ((cs.drop (i * t.sz)).take t.sz) o' us).length = t.sz:=by rw [splice_len] <;> simp <;> omega
       simp only [splice] at l3 ⊢
       rw [l3]
       rw [show cs.take (i * t.sz + o') = cs.take (i * t.sz) ++ (cs.drop (i * t.sz)).take o' from List.take_add ..,List.take_take,Nat.min_eq_left (by omega),List.drop_take,List.drop_drop]
       have:(cs.drop (i * t.sz + (o' + us.length))).take (t.sz - (o' + us.length)) ++ cs.drop (i * t.sz + t.sz) = cs.drop (i * t.sz + o' + us.length):=by
        rw [show cs.drop (i * t.sz + t.sz) = (cs.drop (i * t.sz + (o' + us.length))).drop (t.sz - (o' + us.length)) by rw [List.drop_drop]; congr 1; omega,List.take_append_drop]
        congr 1; omega
       rw [← this]
       simp
      rw [e] at this
      exact this
     ·
      cases hv
    ·
     cases ho
   ·
    cases ho
 | _ =>
  intro x cs p o u z he ho hv
  match p,ho,hv with
  | [],ho,hv=>exact base _ x cs o u z he ho hv
  | .fld 0 :: p,ho,hv=>simp [offTy] at ho
  | .fld (j + 1) :: p,ho,hv=>simp [offTy] at ho
  | .idx i :: p,ho,hv=>simp [offTy] at ho
end Sym

/- What it means that symbolic values and blocks stand for the machine's. -/
namespace Sym
open Go
structure Cx where
 w:World
 G:Nat→Prop
 ρ:Nat→Value
 H:List Blk
def All2 {X Y:Type} (R:X→Y→Prop):List X→List Y→Prop
 | [],[]=>True
 | x :: l,y :: r=>R x y∧All2 R l r
 | _,_=>False
def blkOf:Value→Option Nat
 | .pointer (some a)=>some a.block
 | .slice (some a) _ _=>some a.block
 | _=>none
def PtrOk (c:Cx) (b:Nat) (p:List Step) (v:Value):Prop :=
 match a0K c.H b with
 | .dead=>∃ ad,v = .pointer (some ad)
 | .unborn=>False
 | .box t _=>∃ r o u,c.ρ b = .pointer (some ⟨r,0,none⟩)∧offTy t p = some (o,u)∧v = .pointer (some ⟨r,o,none⟩)
 | .row t l=>∃ r cap i p' o u,c.ρ b = .slice (some ⟨r,0,none⟩) l.length cap∧p = .idx i :: p'∧i < l.length∧offTy t p' = some (o,u)∧v = .pointer (some ⟨r,i * t.sz + o,none⟩)
def WholeOk (c:Cx) (b:Nat) (v:Value):Prop :=
 match a0K c.H b with
 | .row _ _=>v = c.ρ b
 | .dead=>True
 | _=>False
def RowOk (c:Cx) (b lo n:Nat) (v:Value):Prop :=
 match a0K c.H b with
 | .row t l=>lo + n ≤ l.length∧((n = 0∧∃ a cap,v = .slice a 0 cap) ∨
   ∃ r cap cap',c.ρ b = .slice (some ⟨r,0,none⟩) l.length cap∧v = .slice (some ⟨r,lo * t.sz,none⟩) n cap'∧n ≤ cap')
 | .dead=>True
 | _=>False
def AviewOk (c:Cx) (b:Nat) (p:List Step) (lo n:Nat) (v:Value):Prop :=
 match a0K c.H b with
 | .box t _=>∃ r o m u,c.ρ b = .pointer (some ⟨r,0,none⟩)∧offTy t p = some (o,.arr m u)∧lo + n ≤ m∧m ≤ LIM ∧
   ((n = 0∧∃ a cap,v = .slice a 0 cap) ∨ ∃ cap,v = .slice (some ⟨r,o + lo * u.sz,none⟩) n cap∧n ≤ cap∧lo + cap ≤ m)
 | .dead=>True
 | _=>False
def CutOk (c:Cx) (b k:Nat) (v:Value):Prop :=
 match a0K c.H b with
 | .row _ l=>k ≤ l.length∧∃ a,v = .slice a k k∧(k = 0 ∨ ∃ r cap,c.ρ b = .slice (some ⟨r,0,none⟩) l.length cap∧a = some ⟨r,0,none⟩)
 | .dead=>True
 | _=>False
def EncL {X:Type} (E:X→List Value→Prop):List X→List Value→Prop
 | [],cs=>cs = []
 | x :: l,cs=>∃ c1 c2,cs = c1 ++ c2∧E x c1∧EncL E l c2
def isAggPV:PV→Bool
 | .val t _=>t.isAgg
 | .pair _ _=>true
 | _=>false
def mkV (agg:Bool) (cs:List Value):Value :=
 match agg with
 | true=>.agg cs.toArray
 | false=>cs.headD undef
def a1H (c:Cx):PV→List Value→Prop
 | .val t x,cs=>Enc c.w c.G t x cs
 | .nils,cs=>cs = [.slice none 0 0]
 | .pair a b,cs=>∃ c1 c2,cs = c1 ++ c2∧a1H c a c1∧a1H c b c2
 | .ptr b p,cs=>∃ v,cs = [v]∧v.oneCell' = true∧PtrOk c b p v
 | .bptr t x,cs=>∃ ad ds,cs = [.pointer (some ad)]∧ad.spot = none∧c.G ad.block∧Enc c.w c.G t x ds∧cellsAt c.w ad.block ad.off ds
 | .npt,cs=>cs = [.pointer none]
 | .whole b,cs=>∃ v,cs = [v]∧v.oneCell' = true∧WholeOk c b v
 | .row b lo n,cs=>∃ v,cs = [v]∧v.oneCell' = true∧RowOk c b lo n v
 | .aview b p lo n,cs=>∃ v,cs = [v]∧v.oneCell' = true∧AviewOk c b p lo n v
 | .fn f,cs=>cs = [.func (.func f) #[] #[]]
 | .iface t v,cs=>∃ ds,cs = [.iface t (mkV (isAggPV v) ds)]∧a1H c v ds
 | .clo f v,cs=>∃ us,cs = [.func (.func f) #[] us.toArray]∧a1H c v us
 | .cut b k,cs=>∃ v,cs = [v]∧v.oneCell' = true∧CutOk c b k v
 | .tup _,_=>False
 | .undef,_=>False
def TupOk (c:Cx):PV→List Value→Prop
 | .pair x r,vs=>∃ cs vs',vs = mkV (isAggPV x) cs :: vs'∧a1H c x cs∧TupOk c r vs'
 | .val .nil _,vs=>vs = []
 | _,_=>False
def VOk (c:Cx) (pv:PV) (v:Value):Prop :=
 match pv with
 | .tup a=>∃ vs,v = .tuple vs.toArray∧TupOk c a vs
 | .undef=>True
 | pv=>∃ cs,a1H c pv cs∧v = mkV (isAggPV pv) cs
def BlkOk (c:Cx) (b:Nat):Prop :=
 match a0K c.H b with
 | .box t v=>∃ r cs ty,c.ρ b = .pointer (some ⟨r,0,none⟩)∧c.w.heap[r]? = some (.cells (List.toArray cs) ty (0,0))∧a1H c v cs∧fits v t = true
 | .row t l=>l.length ≤ LIM∧∃ e xs,c.w.ownsRow 0 e t.sz (c.ρ b) l.length xs∧EncL (Enc c.w c.G t) l xs
 | _=>True
theorem cells_len {c:Cx}:∀ (v:PV) (t:Ty) (cs:List Value),a1H c v cs→fits v t = true→cs.length = t.sz:=by
 intro v
 induction v with
 | val u x=>intro t cs h hf; have:=Ty.beq_eq hf; subst this; exact Enc_len _ _ _ h
 | pair a b iha ihb =>
  intro t cs h hf
  obtain ⟨c1,c2,rfl,h1,h2⟩:=h
  cases t with
  | cons p q =>
   simp only [fits,Bool.and_eq_true] at hf
   simp [Ty.sz,iha _ _ h1 hf.1,ihb _ _ h2 hf.2]
  | _=>simp [fits] at hf
 | nils=>intro t cs h hf; simp only [a1H] at h; subst h; cases t <;> simp [fits] at hf; rfl
 | ptr b p=>intro t cs h hf; obtain ⟨v,rfl,_⟩:=h; cases t <;> simp [fits] at hf; rfl
 | bptr u x=>intro t cs h hf; obtain ⟨ad,ds,rfl,_⟩:=h; cases t <;> simp [fits] at hf; rfl
 | npt=>intro t cs h hf; simp only [a1H] at h; subst h; cases t <;> simp [fits] at hf; rfl
 | whole b=>intro t cs h hf; obtain ⟨v,rfl,_⟩:=h; cases t <;> simp [fits] at hf; rfl
 | row b lo n=>intro t cs h hf; obtain ⟨v,rfl,_⟩:=h; cases t <;> simp [fits] at hf; rfl
 | aview b p lo n=>intro t cs h hf; obtain ⟨v,rfl,_⟩:=h; cases t <;> simp [fits] at hf; rfl
 | fn f=>intro t cs h hf; simp only [a1H] at h; subst h; cases t <;> simp [fits] at hf <;> rfl
 | iface u v _=>intro t cs h hf; cases t <;> simp [fits] at hf
 | clo f v _=>intro t cs h hf; cases t <;> simp [fits] at hf
 | cut b k=>intro t cs h hf; obtain ⟨v,rfl,_⟩:=h; cases t <;> simp [fits] at hf; rfl
 | tup a=>intro t cs h hf; exact h.elim
 | undef=>intro t cs h hf; exact h.elim
theorem Ty.beq_refl:∀ (t:Ty),Ty.beq t t = true:=by
 intro t
 induction t with
 | int k=>cases k <;> rfl
 | cons a b iha ihb=>simp [Ty.beq,iha,ihb]
 | arr n t ih=>simp [Ty.beq,ih]
 | sl t ih=>simp [Ty.beq,ih]
 | _=>rfl
theorem getPath_ok {c:Cx}:∀ (v:PV) (t:Ty) (cs:List Value) (p:List Step) (o:Nat) (u:Ty) (v':PV),a1H c v cs→fits v t = true→offTy t p = some (o,u)→getPath v p = some v' →
  fits v' u = true∧a1H c v' ((cs.drop o).take u.sz):=by
 intro v
 have base:∀ (v:PV) (t:Ty) (cs:List Value) (o:Nat) (u:Ty) (v':PV),a1H c v cs→fits v t = true→some (0,t) = some (o,u)→some v = some v'→fits v' u = true∧a1H c v' ((cs.drop o).take u.sz):=by
  intro v t cs o u v' h hf ho hv
  simp only [Option.some.injEq,Prod.mk.injEq] at ho hv
  obtain ⟨rfl,rfl⟩:=ho
  subst hv
  have:=cells_len _ _ _ h hf
  exact ⟨hf,by rw [List.drop_zero,List.take_of_length_le (by omega)]; exact h⟩
 have offnil:∀ (t:Ty) (p:List Step) (o:Nat) (u:Ty),offTy t p = some (o,u)→p = []→some (0,t) = some (o,u):=by
  intro t p o u h hp; subst hp; cases t <;> exact h
 induction v with
 | val s x =>
  intro t cs p o u v' h hf ho hv
  have:=Ty.beq_eq hf
  subst this
  have hv':getVal s x p = some v':=by
   cases p with
   | nil=>cases s <;> exact hv
   | cons a p=>cases a with
    | fld j=>cases j <;> exact hv
    | idx i=>exact hv
  obtain ⟨y,rfl,hy⟩:=enc_getVal s x cs p o u v' h ho hv'
  exact ⟨Ty.beq_refl u,hy⟩
 | pair a b iha ihb =>
  intro t cs p o u v' h hf ho hv
  match p,ho,hv with
  | [],ho,hv=>exact base _ t cs o u v' h hf (offnil _ _ _ _ ho rfl) hv
  | .fld 0 :: p,ho,hv =>
   obtain ⟨c1,c2,rfl,h1,h2⟩:=h
   cases t with
   | cons f g =>
    simp only [fits,Bool.and_eq_true] at hf
    obtain ⟨hf',hy⟩:=iha _ _ _ _ _ _ h1 hf.1 ho hv
    have:=offTy_le f p o u ho
    have:=cells_len _ _ _ h1 hf.1
    exact ⟨hf',by rw [take_drop_append_left _ _ _ _ (by omega)]; exact hy⟩
   | _=>simp [fits] at hf
  | .fld (j + 1) :: p,ho,hv =>
   obtain ⟨c1,c2,rfl,h1,h2⟩:=h
   cases t with
   | cons f g =>
    simp only [fits,Bool.and_eq_true] at hf
    simp only [offTy] at ho
    split at ho
    ·
     rename_i o' t' he'
     simp only [Option.some.injEq,Prod.mk.injEq] at ho
     obtain ⟨rfl,rfl⟩:=ho
     obtain ⟨hf',hy⟩:=ihb _ _ _ _ _ _ h2 hf.2 he' hv
     have:=cells_len _ _ _ h1 hf.1
     exact ⟨hf',by rw [← this,take_drop_append_right]; exact hy⟩
    ·
     cases ho
   | _=>simp [fits] at hf
  | .idx i :: p,ho,hv=>simp [getPath] at hv
 | _ =>
  intro t cs p o u v' h hf ho hv
  cases p with
  | nil=>exact base _ t cs o u v' h hf (offnil _ _ _ _ ho rfl) hv
  | cons a p=>simp [getPath] at hv
theorem putOther_ok {c:Cx} (v:PV) (us:List Value) (hv:a1H c v us):∀ (t:Ty) (x:t.D) (cs:List Value) (p:List Step) (o:Nat) (u:Ty) (z:PV),Enc c.w c.G t x cs→offTy t p = some (o,u)→fits v u = true→putOther v t x p = some z →
  fits z t = true∧a1H c z (splice cs o us):=by
 intro t
 have base:∀ (t:Ty) (x:t.D) (cs:List Value) (o:Nat) (u:Ty) (z:PV),Enc c.w c.G t x cs→some (0,t) = some (o,u)→fits v u = true→some v = some z→fits z t = true∧a1H c z (splice cs o us):=by
  intro t x cs o u z he ho hf hz
  simp only [Option.some.injEq,Prod.mk.injEq] at ho hz
  obtain ⟨rfl,rfl⟩:=ho
  subst hz
  have l1:=Enc_len _ _ _ he
  have l2:=cells_len _ _ _ hv hf
  refine ⟨hf,?_⟩
  simp only [splice,List.take_zero,List.nil_append,Nat.zero_add]
  rw [List.drop_of_length_le (by omega),List.append_nil]
  exact hv
 induction t with
 | cons a b iha ihb =>
  intro x cs p o u z he ho hf hz
  match p,ho,hz with
  | [],ho,hz=>exact base _ x cs o u z he ho hf hz
  | .fld 0 :: p,ho,hz =>
   obtain ⟨c1,c2,rfl,h1,h2⟩:=he
   simp only [putOther] at hz
   split at hz
   ·
    rename_i z' hz'
    have hz:=Option.some.inj hz
    subst hz
    obtain ⟨hf',hy⟩:=iha _ _ p o u z' h1 ho hf hz'
    have:=offTy_le a p o u ho
    have:=Enc_len _ _ _ h1
    have:=cells_len _ _ _ hv hf
    exact ⟨by simp [fits,hf',Ty.beq_refl],_,_,splice_left _ _ _ _ (by omega),hy,h2⟩
   ·
    cases hz
  | .fld (j + 1) :: p,ho,hz =>
   obtain ⟨c1,c2,rfl,h1,h2⟩:=he
   simp only [offTy] at ho
   split at ho
   ·
    rename_i o' t' he'
    simp only [Option.some.injEq,Prod.mk.injEq] at ho
    obtain ⟨rfl,rfl⟩:=ho
    simp only [putOther] at hz
    split at hz
    ·
     rename_i z' hz'
     have hz:=Option.some.inj hz
     subst hz
     obtain ⟨hf',hy⟩:=ihb _ _ _ _ _ z' h2 he' hf hz'
     have:=Enc_len _ _ _ h1
     exact ⟨by simp [fits,hf',Ty.beq_refl],c1,_,by rw [← this,splice_right],h1,hy⟩
    ·
     cases hz
   ·
    cases ho
  | .idx i :: p,ho,hz=>simp [offTy] at ho
 | arr n t ih =>
  intro x cs p o u z he ho hf hz
  match p,ho,hz with
  | [],ho,hz=>exact base _ x cs o u z he ho hf hz
  | .fld 0 :: p,ho,hz=>simp [offTy] at ho
  | .fld (j + 1) :: p,ho,hz=>simp [offTy] at ho
  | .idx i :: p,ho,hz=>simp [putOther] at hz
 | _ =>
  intro x cs p o u z he ho hf hz
  match p,ho,hz with
  | [],ho,hz=>exact base _ x cs o u z he ho hf hz
  | .fld 0 :: p,ho,hz=>simp [offTy] at ho
  | .fld (j + 1) :: p,ho,hz=>simp [offTy] at ho
  | .idx i :: p,ho,hz=>simp [offTy] at ho
theorem setPath_ok {c:Cx} (u:PV) (us:List Value) (hu:a1H c u us):∀ (v:PV) (t:Ty) (cs:List Value) (p:List Step) (o:Nat) (s:Ty) (v':PV),a1H c v cs→fits v t = true→offTy t p = some (o,s)→fits u s = true→setPath u v p = some v' →
  fits v' t = true∧a1H c v' (splice cs o us):=by
 intro v
 have base:∀ (v:PV) (t:Ty) (cs:List Value) (o:Nat) (s:Ty) (v':PV),a1H c v cs→fits v t = true→some (0,t) = some (o,s)→fits u s = true→some u = some v'→fits v' t = true∧a1H c v' (splice cs o us):=by
  intro v t cs o s v' h hf ho hs hv
  simp only [Option.some.injEq,Prod.mk.injEq] at ho hv
  obtain ⟨rfl,rfl⟩:=ho
  subst hv
  have l1:=cells_len _ _ _ h hf
  have l2:=cells_len _ _ _ hu hs
  refine ⟨hs,?_⟩
  simp only [splice,List.take_zero,List.nil_append,Nat.zero_add]
  rw [List.drop_of_length_le (by omega),List.append_nil]
  exact hu
 have offnil:∀ (t:Ty) (p:List Step) (o:Nat) (u:Ty),offTy t p = some (o,u)→p = []→some (0,t) = some (o,u):=by
  intro t p o u h hp; subst hp; cases t <;> exact h
 induction v with
 | val r x =>
  intro t cs p o s v' h hf ho hs hv
  have:=Ty.beq_eq hf
  subst this
  cases p with
  | nil=>exact base _ _ cs o s v' h hf (offnil _ _ _ _ ho rfl) hs hv
  | cons a p =>
   have hv:setVal u r x (a :: p) = some v':=by
    cases a with
    | fld j=>cases j <;> exact hv
    | idx i=>exact hv
   unfold setVal at hv
   split at hv
   ·
    rename_i u' y _
    split at hv
    ·
     rename_i z hz
     have hv:=Option.some.inj hv
     subst hv
     obtain ⟨e,hz'⟩:=enc_putVal u' y us hu r x cs (a :: p) o s z h ho hz
     exact ⟨Ty.beq_refl r,hz'⟩
    ·
     cases hv
   ·
    exact putOther_ok u us hu r x cs (a :: p) o s v' h ho hs hv
 | pair a b iha ihb =>
  intro t cs p o s v' h hf ho hs hv
  match p,ho,hv with
  | [],ho,hv=>exact base _ t cs o s v' h hf (offnil _ _ _ _ ho rfl) hs hv
  | .fld 0 :: p,ho,hv =>
   obtain ⟨c1,c2,rfl,h1,h2⟩:=h
   cases t with
   | cons f g =>
    simp only [fits,Bool.and_eq_true] at hf
    simp only [setPath] at hv
    split at hv
    ·
     rename_i z hz
     have hv:=Option.some.inj hv
     subst hv
     obtain ⟨hf',hy⟩:=iha _ _ _ _ _ _ h1 hf.1 ho hs hz
     have:=offTy_le f p o s ho
     have:=cells_len _ _ _ h1 hf.1
     have:=cells_len _ _ _ hu hs
     exact ⟨by simp [fits,hf',hf.2],_,_,splice_left _ _ _ _ (by omega),hy,h2⟩
    ·
     cases hv
   | _=>simp [fits] at hf
  | .fld (j + 1) :: p,ho,hv =>
   obtain ⟨c1,c2,rfl,h1,h2⟩:=h
   cases t with
   | cons f g =>
    simp only [fits,Bool.and_eq_true] at hf
    simp only [offTy] at ho
    split at ho
    ·
     rename_i o' t' he'
     simp only [Option.some.injEq,Prod.mk.injEq] at ho
     obtain ⟨rfl,rfl⟩:=ho
     simp only [setPath] at hv
     split at hv
     ·
      rename_i z hz
      have hv:=Option.some.inj hv
      subst hv
      obtain ⟨hf',hy⟩:=ihb _ _ _ _ _ _ h2 hf.2 he' hs hz
      have:=cells_len _ _ _ h1 hf.1
      exact ⟨by simp [fits,hf',hf.1],c1,_,by rw [← this,splice_right],h1,hy⟩
     ·
      cases hv
    ·
     cases ho
   | _=>simp [fits] at hf
  | .idx i :: p,ho,hv=>simp [setPath] at hv
 | _ =>
  intro t cs p o s v' h hf ho hs hv
  cases p with
  | nil=>exact base _ t cs o s v' h hf (offnil _ _ _ _ ho rfl) hs hv
  | cons a p=>simp [setPath] at hv
end Sym

/- How memory may turn from step to step, and what lasts. -/
namespace Sym
open Go
def BlkLe (c c':Cx) (b:Nat):Prop :=
 match a0K c.H b,a0K c'.H b with
 | .unborn,_=>True
 | _,.dead=>True
 | .box t _,.box t' _=>t' = t∧c'.ρ b = c.ρ b
 | .row t l,.row t' l'=>t' = t∧l'.length = l.length∧c'.ρ b = c.ρ b
 | _,_=>False
structure Ext (c c':Cx):Prop where
 G:∀ r,c.G r→c'.G r∧c'.w.heap[r]? = c.w.heap[r]?
 blk:∀ b,BlkLe c c' b
theorem Ext.enc {c c':Cx} (h:Ext c c') {t:Ty} {x:t.D} {cs:List Value} (he:Enc c.w c.G t x cs):Enc c'.w c'.G t x cs:=Enc_mono h.G t x cs he
theorem cellsAt_ext {w w':World} {b off:Nat} {ds:List Value} (h:w'.heap[b]? = w.heap[b]?) (hc:cellsAt w b off ds):cellsAt w' b off ds :=
 fun j d hj=>(cell?_of_heap (a:=⟨b,off + j,none⟩) h).trans (hc j d hj)
theorem PtrOk.some {c:Cx} {b:Nat} {p:List Step} {v:Value} (h:PtrOk c b p v):∃ ad,v = .pointer (some ad):=by
 unfold PtrOk at h
 cases h1:a0K c.H b with
 | unborn=>simp [h1] at h
 | dead=>simpa [h1] using h
 | box t u=>simp only [h1] at h; obtain ⟨r,o,u,_,_,rfl⟩:=h; exact ⟨_,rfl⟩
 | row t l=>simp only [h1] at h; obtain ⟨r,cap,i,p',o,u,_,_,_,_,rfl⟩:=h; exact ⟨_,rfl⟩
theorem ptr_ext {c c':Cx} (h:Ext c c') {b:Nat} {p:List Step} {v:Value} (hp:PtrOk c b p v):PtrOk c' b p v:=by
 have hb:=h.blk b
 have hsome:=hp.some
 unfold PtrOk at *
 unfold BlkLe at hb
 cases h1:a0K c.H b with
 | unborn=>simp [h1] at hp
 | dead=>cases h2:a0K c'.H b <;> simp only [h1,h2] at hb ⊢; exact hsome
 | box t u =>
  cases h2:a0K c'.H b <;> simp only [h1,h2] at hb hp ⊢
  ·
   exact hsome
  ·
   obtain ⟨rfl,e⟩:=hb
   rw [e]; exact hp
 | row t l =>
  cases h2:a0K c'.H b <;> simp only [h1,h2] at hb hp ⊢
  ·
   exact hsome
  ·
   obtain ⟨rfl,e1,e⟩:=hb
   rw [e,e1]; exact hp
theorem whole_ext {c c':Cx} (h:Ext c c') {b:Nat} {v:Value} (hp:WholeOk c b v):WholeOk c' b v:=by
 have hb:=h.blk b
 unfold WholeOk at *
 unfold BlkLe at hb
 cases h1:a0K c.H b with
 | unborn=>simp [h1] at hp
 | dead=>cases h2:a0K c'.H b <;> simp [h1,h2] at hb ⊢
 | box t u=>simp [h1] at hp
 | row t l =>
  cases h2:a0K c'.H b <;> simp only [h1,h2] at hb hp ⊢
  obtain ⟨rfl,e1,e⟩:=hb
  rw [e]; exact hp
theorem row_ext {c c':Cx} (h:Ext c c') {b lo n:Nat} {v:Value} (hp:RowOk c b lo n v):RowOk c' b lo n v:=by
 have hb:=h.blk b
 unfold RowOk at *
 unfold BlkLe at hb
 cases h1:a0K c.H b with
 | unborn=>simp [h1] at hp
 | dead=>cases h2:a0K c'.H b <;> simp [h1,h2] at hb ⊢
 | box t u=>simp [h1] at hp
 | row t l =>
  cases h2:a0K c'.H b <;> simp only [h1,h2] at hb hp ⊢
  obtain ⟨rfl,e1,e⟩:=hb
  rw [e,e1]; exact hp
theorem aview_ext {c c':Cx} (h:Ext c c') {b:Nat} {p:List Step} {lo n:Nat} {v:Value} (hp:AviewOk c b p lo n v):AviewOk c' b p lo n v:=by
 have hb:=h.blk b
 unfold AviewOk at *
 unfold BlkLe at hb
 cases h1:a0K c.H b with
 | unborn=>simp [h1] at hp
 | dead=>cases h2:a0K c'.H b <;> simp [h1,h2] at hb ⊢
 | row t u=>simp [h1] at hp
 | box t l =>
  cases h2:a0K c'.H b <;> simp only [h1,h2] at hb hp ⊢
  obtain ⟨rfl,e⟩:=hb
  rw [e]; exact hp
theorem cut_ext {c c':Cx} (h:Ext c c') {b k:Nat} {v:Value} (hp:CutOk c b k v):CutOk c' b k v:=by
 have hb:=h.blk b
 unfold CutOk at *
 unfold BlkLe at hb
 cases h1:a0K c.H b with
 | unborn=>simp [h1] at hp
 | dead=>cases h2:a0K c'.H b <;> simp [h1,h2] at hb ⊢
 | box t u=>simp [h1] at hp
 | row t l =>
  cases h2:a0K c'.H b <;> simp only [h1,h2] at hb hp ⊢
  obtain ⟨rfl,e1,e⟩:=hb
  rw [e,e1]; exact hp
theorem cells_ext {c c':Cx} (h:Ext c c'):∀ (v:PV) (cs:List Value),a1H c v cs→a1H c' v cs:=by
 intro v
 induction v with
 | val t x=>intro cs he; exact h.enc he
 | pair a b iha ihb=>intro cs he; obtain ⟨c1,c2,e,h1,h2⟩:=he; exact ⟨c1,c2,e,iha _ h1,ihb _ h2⟩
 | ptr b p=>intro cs he; obtain ⟨v,e,h1,hp⟩:=he; exact ⟨v,e,h1,ptr_ext h hp⟩
 | bptr t x=>intro cs he; obtain ⟨ad,ds,e,hs,hG,hx,hc⟩:=he; exact ⟨ad,ds,e,hs,(h.G _ hG).1,h.enc hx,cellsAt_ext (h.G _ hG).2 hc⟩
 | whole b=>intro cs he; obtain ⟨v,e,h1,hp⟩:=he; exact ⟨v,e,h1,whole_ext h hp⟩
 | row b lo n=>intro cs he; obtain ⟨v,e,h1,hp⟩:=he; exact ⟨v,e,h1,row_ext h hp⟩
 | aview b p lo n=>intro cs he; obtain ⟨v,e,h1,hp⟩:=he; exact ⟨v,e,h1,aview_ext h hp⟩
 | nils=>intro cs he; exact he
 | npt=>intro cs he; exact he
 | fn f=>intro cs he; exact he
 | iface t v ih=>intro cs he; obtain ⟨ds,e,h1⟩:=he; exact ⟨ds,e,ih _ h1⟩
 | clo f v ih=>intro cs he; obtain ⟨us,e,h1⟩:=he; exact ⟨us,e,ih _ h1⟩
 | cut b k=>intro cs he; obtain ⟨v,e,h1,hp⟩:=he; exact ⟨v,e,h1,cut_ext h hp⟩
 | tup a=>intro cs he; exact he
 | undef=>intro cs he; exact he
theorem tup_ext {c c':Cx} (h:Ext c c'):∀ (v:PV) (vs:List Value),TupOk c v vs→TupOk c' v vs:=by
 intro v
 induction v with
 | pair a b iha ihb=>intro vs he; obtain ⟨cs,vs',e,h1,h2⟩:=he; exact ⟨cs,vs',e,cells_ext h _ _ h1,ihb _ h2⟩
 | val t x=>intro vs he; cases t <;> first | exact he | exact he.elim
 | _=>intro vs he; exact he.elim
theorem v_ext {c c':Cx} (h:Ext c c') {pv:PV} {v:Value} (hv:VOk c pv v):VOk c' pv v:=by
 cases pv with
 | tup a=>obtain ⟨vs,e,ht⟩:=hv; exact ⟨vs,e,tup_ext h _ _ ht⟩
 | undef=>trivial
 | _=>obtain ⟨cs,h1,e⟩:=hv; exact ⟨cs,cells_ext h _ _ h1,e⟩
theorem EncL_mono {X:Type} {E E':X→List Value→Prop} (h:∀ x cs,E x cs→E' x cs):∀ (l:List X) (cs:List Value),EncL E l cs→EncL E' l cs
 | [],_,he=>he
 | x :: l,_,he=>by
  obtain ⟨c1,c2,e,h1,h2⟩:=he
  exact ⟨c1,c2,e,h _ _ h1,EncL_mono h l c2 h2⟩
def Gof (base:World) (G0:Nat→Prop) (w:World) (ρ:Nat→Value) (H:List Blk):Nat→Prop :=
 fun r=>(G0 r ∨ base.heap.size ≤ r)∧r < w.heap.size∧∀ b,live (a0K H b) = true→blkOf (ρ b) ≠ some r
structure Mem (base:World) (G0 own0:Nat→Prop) (c:Cx):Prop where
 os:c.w.os = base.os
 tape:c.w.tape = base.tape
 output:c.w.output = base.output
 size:base.heap.size ≤ c.w.heap.size
 frame:∀ r,r < base.heap.size→¬ own0 r→c.w.heap[r]? = base.heap[r]?
 blk:∀ b,BlkOk c b
 inj:∀ b b' r,live (a0K c.H b) = true→live (a0K c.H b') = true→blkOf (c.ρ b) = some r→blkOf (c.ρ b') = some r→b = b'
 own:∀ b r,live (a0K c.H b) = true→blkOf (c.ρ b) = some r→own0 r ∨ base.heap.size ≤ r
 G:c.G = Gof base G0 c.w c.ρ c.H
 sub:∀ r,own0 r→G0 r
theorem BlkOk.lt {c:Cx} {b r:Nat} (h:BlkOk c b) (hl:live (a0K c.H b) = true) (hr:blkOf (c.ρ b) = some r):r < c.w.heap.size:=by
 unfold BlkOk at h
 cases hb:a0K c.H b with
 | unborn=>simp [hb,live] at hl
 | dead=>simp [hb,live] at hl
 | box t v =>
  simp only [hb] at h
  obtain ⟨r',cs,ty,e,hh,_⟩:=h
  rw [e] at hr
  simp only [blkOf,Option.some.injEq] at hr
  subst hr
  exact (Array.getElem?_eq_some_iff.1 hh).1
 | row t l =>
  simp only [hb] at h
  obtain ⟨h0,e,xs,ho,hx⟩:=h
  rcases ho.2 with ho | ⟨g,cap,cur,ho,h1,h2,h3⟩
  ·
   rw [ho.1] at hr; cases hr
  ·
   rw [ho] at hr
   simp only [blkOf,Option.some.injEq] at hr
   subst hr
   exact (Array.getElem?_eq_some_iff.1 h2).1
structure Turn (base:World) (G0 own0:Nat→Prop) (c c':Cx) (D:Nat→Prop):Prop where
 os:c'.w.os = c.w.os
 tape:c'.w.tape = c.w.tape
 output:c'.w.output = c.w.output
 size:c.w.heap.size ≤ c'.w.heap.size
 ρ:∀ b,¬ D b→c'.ρ b = c.ρ b
 H:∀ b,¬ D b→a0K c'.H b = a0K c.H b
 heap:∀ r,r < c.w.heap.size→(∀ b,D b→live (a0K c.H b) = true→blkOf (c.ρ b) ≠ some r)→c'.w.heap[r]? = c.w.heap[r]?
 le:∀ b,D b→BlkLe c c' b
 new:∀ b r,D b→live (a0K c'.H b) = true→blkOf (c'.ρ b) = some r→c.w.heap.size ≤ r ∨ ∃ b0,D b0∧live (a0K c.H b0) = true∧blkOf (c.ρ b0) = some r
 inj:∀ b b' r,D b→D b'→live (a0K c'.H b) = true→live (a0K c'.H b') = true→blkOf (c'.ρ b) = some r→blkOf (c'.ρ b') = some r→b = b'
 G:c'.G = Gof base G0 c'.w c'.ρ c'.H
theorem BlkLe_same {c c':Cx} {b:Nat} (hρ:c'.ρ b = c.ρ b) (hH:a0K c'.H b = a0K c.H b):BlkLe c c' b:=by
 unfold BlkLe
 rw [hH]
 cases a0K c.H b <;> simp [hρ]
theorem Turn.ext {base:World} {G0 own0:Nat→Prop} {c c':Cx} {D:Nat→Prop} (h:Turn base G0 own0 c c' D) (hM:Mem base G0 own0 c):Ext c c':=by
 refine ⟨fun r hr=>?_,fun b=>?_⟩
 ·
  rw [hM.G] at hr
  obtain ⟨h1,h2,h3⟩:=hr
  refine ⟨?_,h.heap r h2 fun b _ hl=>h3 b hl⟩
  rw [h.G]
  refine ⟨h1,by have:=h.size; omega,fun b hl he=>?_⟩
  by_cases hD:D b
  ·
   rcases h.new b r hD hl he with h4 | ⟨b0,hD0,hl0,he0⟩
   ·
    omega
   ·
    exact h3 b0 hl0 he0
  ·
   rw [h.ρ b hD] at he
   rw [h.H b hD] at hl
   exact h3 b hl he
 ·
  by_cases hD:D b
  ·
   exact h.le b hD
  ·
   exact BlkLe_same (h.ρ b hD) (h.H b hD)
theorem ownsRow_of_heap {w w':World} {e:TypeId} {s n:Nat} {v:Value} {xs:List Value} (h:w.ownsRow 0 e s v n xs) (hh:∀ r,blkOf v = some r→w'.heap[r]? = w.heap[r]?):w'.ownsRow 0 e s v n xs:=by
 refine ⟨h.1,?_⟩
 rcases h.2 with h | ⟨g,cap,cur,rfl,h1,h2,h3⟩
 ·
  exact .inl h
 ·
  exact .inr ⟨g,cap,cur,rfl,h1,by rw [hh g rfl]; exact h2,h3⟩
theorem Turn.mem {base:World} {G0 own0:Nat→Prop} {c c':Cx} {D:Nat→Prop} (h:Turn base G0 own0 c c' D) (hM:Mem base G0 own0 c) (hB:∀ b,D b→BlkOk c' b):Mem base G0 own0 c':=by
 have hE:=h.ext hM
 have hold:∀ b r,¬ D b→live (a0K c.H b) = true→blkOf (c.ρ b) = some r→c'.w.heap[r]? = c.w.heap[r]?:=by
  intro b r hD hl hr
  refine h.heap r ((hM.blk b).lt hl hr) fun b0 hD0 hl0 he0=>hD ?_
  rw [hM.inj b b0 r hl hl0 hr he0]; exact hD0
 refine ⟨h.os.trans hM.os,h.tape.trans hM.tape,h.output.trans hM.output,Nat.le_trans hM.size h.size,fun r hr ho=>?_,fun b=>?_,fun b b' r hl hl' he he'=>?_,fun b r hl he=>?_,h.G,hM.sub⟩
 ·
  rw [← hM.frame r hr ho]
  refine h.heap r (by have:=hM.size; omega) fun b hD hl he=>?_
  rcases hM.own b r hl he with h1 | h1
  ·
   exact ho h1
  ·
   omega
 ·
  by_cases hD:D b
  ·
   exact hB b hD
  ·
   have hb:=hM.blk b
   unfold BlkOk at hb ⊢
   rw [h.H b hD]
   cases h1:a0K c.H b with
   | unborn=>trivial
   | dead=>trivial
   | box t v =>
    simp only [h1] at hb ⊢
    obtain ⟨r,cs,ty,e,hh,hc,hf⟩:=hb
    exact ⟨r,cs,ty,(h.ρ b hD).trans e,(hold b r hD (by simp [h1,live]) (by simp [e,blkOf])).trans hh,cells_ext hE _ _ hc,hf⟩
   | row t l =>
    simp only [h1] at hb ⊢
    obtain ⟨hl,e,xs,ho,hx⟩:=hb
    refine ⟨hl,e,xs,?_,EncL_mono (fun x cs=>hE.enc) l xs hx⟩
    rw [h.ρ b hD]
    exact ownsRow_of_heap ho fun r hr=>hold b r hD (by simp [h1,live]) hr
 ·
  by_cases hD:D b
  ·
   by_cases hD':D b'
   ·
    exact h.inj b b' r hD hD' hl hl' he he'
   ·
    exfalso
    rw [h.ρ b' hD'] at he'
    rw [h.H b' hD'] at hl'
    rcases h.new b r hD hl he with h4 | ⟨b0,hD0,hl0,he0⟩
    ·
     have:=(hM.blk b').lt hl' he'; omega
    ·
     exact hD' (by rw [hM.inj b' b0 r hl' hl0 he' he0]; exact hD0)
  ·
   by_cases hD':D b'
   ·
    exfalso
    rw [h.ρ b hD] at he
    rw [h.H b hD] at hl
    rcases h.new b' r hD' hl' he' with h4 | ⟨b0,hD0,hl0,he0⟩
    ·
     have:=(hM.blk b).lt hl he; omega
    ·
     exact hD (by rw [hM.inj b b0 r hl hl0 he he0]; exact hD0)
   ·
    rw [h.ρ b hD] at he
    rw [h.H b hD] at hl
    rw [h.ρ b' hD'] at he'
    rw [h.H b' hD'] at hl'
    exact hM.inj b b' r hl hl' he he'
 ·
  by_cases hD:D b
  ·
   rcases h.new b r hD hl he with h4 | ⟨b0,hD0,hl0,he0⟩
   ·
    exact .inr (Nat.le_trans hM.size h4)
   ·
    exact hM.own b0 r hl0 he0
  ·
   rw [h.ρ b hD] at he
   rw [h.H b hD] at hl
   exact hM.own b r hl he
end Sym

/- A symbolic value read as a plain one; the shapes' data taken out of symbolic values. -/
namespace Sym
open Go
theorem EncL_get {X:Type} {E:X→List Value→Prop} {s:Nat} (hl:∀ x cs,E x cs→cs.length = s):∀ (l:List X) (xs:List Value) (i:Nat) (x:X),EncL E l xs→l[i]? = some x →
  ∃ ds,E x ds∧∀ j d,ds[j]? = some d→xs[i * s + j]? = some d
 | [],_,_,_,_,h=>by simp at h
 | y :: l,xs,0,x,he,h=>by
  obtain ⟨c1,c2,rfl,h1,h2⟩:=he
  simp only [List.getElem?_cons_zero,Option.some.injEq] at h
  subst h
  refine ⟨c1,h1,fun j d hj=>?_⟩
  have:j < c1.length:=by
   rcases Nat.lt_or_ge j c1.length with h | h
   ·
    exact h
   ·
    rw [List.getElem?_eq_none h] at hj; cases hj
  rw [Nat.zero_mul,Nat.zero_add,List.getElem?_append_left this]
  exact hj
 | y :: l,xs,i + 1,x,he,h=>by
  obtain ⟨c1,c2,rfl,h1,h2⟩:=he
  have:=hl _ _ h1
  simp only [List.getElem?_cons_succ] at h
  obtain ⟨ds,hd,hj⟩:=EncL_get hl l c2 i x h2 h
  refine ⟨ds,hd,fun j d hjd=>?_⟩
  rw [show (i + 1) * s + j = c1.length + (i * s + j) by rw [Nat.succ_mul]; omega,List.getElem?_append_right (by omega),Nat.add_sub_cancel_left]
  exact hj j d hjd
theorem EncL_len {X:Type} {E:X→List Value→Prop} {s:Nat} (hl:∀ x cs,E x cs→cs.length = s):∀ (l:List X) (xs:List Value),EncL E l xs→xs.length = l.length * s
 | [],_,h=>by simp only [EncL] at h; subst h; simp
 | x :: l,_,h=>by
  obtain ⟨c1,c2,rfl,h1,h2⟩:=h
  have:=EncL_len hl l c2 h2
  have:=hl _ _ h1
  simp [Nat.succ_mul]; omega
theorem EncArr_list {X:Type} {E:X→List Value→Prop}:∀ (n:Nat) (x:Arr X n) (cs:List Value),EncArr E n x cs→EncL E (Arr.list n x) cs
 | 0,_,_,h=>h
 | n + 1,x,_,h=>by
  obtain ⟨c1,c2,e,h1,h2⟩:=h
  exact ⟨c1,c2,e,h1,EncArr_list n x.2 c2 h2⟩
theorem Arr.list_len {X:Type}:∀ (n:Nat) (x:Arr X n),(Arr.list n x).length = n
 | 0,_=>rfl
 | n + 1,x=>by simp [Arr.list,Arr.list_len n x.2]
theorem rowAt_of_EncL {w:World} {t:Ty} {G:Nat→Prop} {l:List t.D} {xs:List Value} {r off:Nat} {cur:Array Value} {e:TypeId} {fr:Nat × Nat}
  (hx:EncL (Enc w G t) l xs) (hg:w.heap[r]? = some (.cells cur e fr)) (hc:∀ j d,xs[j]? = some d→cur[off + j]? = some d):rowAt w (Enc w G t) t.sz r off l:=by
 intro i x hi
 obtain ⟨ds,hd,hj⟩:=EncL_get (fun x cs=>Enc_len t x cs) l xs i x hx hi
 refine ⟨ds,hd,fun j d hjd=>?_⟩
 have:=hc _ _ (hj j d hjd)
 simp only [World.cell?,hg,Option.isSome_none,Bool.false_eq_true,if_false]
 rw [Nat.add_assoc]
 exact this
theorem rowAt_sub {X:Type} {w:World} {E:X→List Value→Prop} {s r off lo n:Nat} {l:List X} (h:rowAt w E s r off l):rowAt w E s r (off + lo * s) ((l.drop lo).take n):=by
 intro i x hi
 have hi':l[lo + i]? = some x:=by
  rw [List.getElem?_take] at hi
  split at hi
  ·
   rw [List.getElem?_drop] at hi; exact hi
  ·
   cases hi
 obtain ⟨ds,h1,h2⟩:=h (lo + i) x hi'
 refine ⟨ds,h1,?_⟩
 rw [show off + lo * s + i * s = off + (lo + i) * s by rw [Nat.add_mul]; omega]
 exact h2
def Glent (c:Cx) (lent:List Nat):Nat→Prop:=fun r=>c.G r ∨ ∃ b,b ∈ lent∧live (a0K c.H b) = true∧blkOf (c.ρ b) = some r
theorem Glent_mono {c:Cx} {l l':List Nat} (h:∀ b,b ∈ l→b ∈ l'):∀ r,Glent c l r→Glent c l' r:=by
 rintro r (h1 | ⟨b,h1,h2⟩)
 ·
  exact .inl h1
 ·
  exact .inr ⟨b,h b h1,h2⟩
theorem Enc_G {w:World} {G G':Nat→Prop} (h:∀ r,G r→G' r) {t:Ty} {x:t.D} {cs:List Value} (he:Enc w G t x cs):Enc w G' t x cs:=Enc_mono (fun r hr=>⟨h r hr,rfl⟩) t x cs he
theorem rowAt_mono {X:Type} {w:World} {E E':X→List Value→Prop} (h:∀ x cs,E x cs→E' x cs) {s r off:Nat} {l:List X} (hr:rowAt w E s r off l):rowAt w E' s r off l:=by
 intro i x hi
 obtain ⟨ds,h1,h2⟩:=hr i x hi
 exact ⟨ds,h _ _ h1,h2⟩
theorem own_cells {w:World} {e:TypeId} {s n:Nat} {v:Value} {xs:List Value} (h:w.ownsRow 0 e s v n xs):(v = .slice none 0 0∧n = 0∧xs = []) ∨
  ∃ g cap cur,v = .slice (some ⟨g,0,none⟩) n cap∧w.heap[g]? = some (.cells cur e (0,0))∧n ≤ cap∧cap ≤ maxLen∧cur.size = cap * s∧cur.toList.take (n * s) = xs∧∀ j d,xs[j]? = some d→cur[0 + j]? = some d:=by
 rcases h.2 with ⟨h1,h2⟩ | ⟨g,cap,cur,h1,_,h2,h3,h4,h5,h6⟩
 ·
  refine .inl ⟨h1,h2,List.eq_nil_of_length_eq_zero ?_⟩
  rw [h.1,h2,Nat.zero_mul]
 ·
  refine .inr ⟨g,cap,cur,h1,h2,h3,h4,h5,h6,fun j d hj=>?_⟩
  rw [← h6,List.getElem?_take] at hj
  split at hj
  ·
   rw [Nat.zero_add,← Array.getElem?_toList]; exact hj
  ·
   cases hj
theorem toVal_ok {c:Cx} (hB:∀ b,BlkOk c b):∀ (t:Ty) (v:PV) (cs:List Value) (x:t.D) (lent:List Nat),a1H c v cs→toVal c.H t v = some (x,lent)→Enc c.w (Glent c lent) t x cs:=by
 have hval:∀ (t u:Ty) (y:u.D) (cs:List Value) (x:t.D) (lent:List Nat),a1H c (.val u y) cs→(match Ty.cast u t y with | some y=>some (y,([]:List Nat)) | none=>none) = some (x,lent)→Enc c.w (Glent c lent) t x cs:=by
  intro t u y cs x lent hc hv
  split at hv
  ·
   rename_i y' hy
   obtain ⟨e,rfl⟩:=cast_eq hy
   subst e
   simp only [Option.some.injEq,Prod.mk.injEq] at hv
   obtain ⟨rfl,rfl⟩:=hv
   exact Enc_G (fun r hr=>.inl hr) hc
  ·
   cases hv
 intro t
 induction t with
 | cons a b iha ihb =>
  intro v cs x lent hc hv
  cases v with
  | val u y=>exact hval _ u y cs x lent hc hv
  | pair p q =>
   obtain ⟨c1,c2,rfl,h1,h2⟩:=hc
   simp only [toVal] at hv
   split at hv
   ·
    rename_i x1 x2 e1 e2
    have hv:=Option.some.inj hv
    obtain ⟨rfl,rfl⟩:=Prod.mk.inj hv
    refine ⟨c1,c2,rfl,Enc_G (Glent_mono ?_) (iha p c1 x1.1 x1.2 h1 e1),Enc_G (Glent_mono ?_) (ihb q c2 x2.1 x2.2 h2 e2)⟩ <;> intro b hb <;> simp [hb]
   ·
    cases hv
  | _=>simp [toVal] at hv
 | sl t ih =>
  intro v cs x lent hc hv
  cases v with
  | val u y=>exact hval _ u y cs x lent hc hv
  | nils =>
   simp only [toVal] at hv
   have hv:=Option.some.inj hv
   obtain ⟨rfl,rfl⟩:=Prod.mk.inj hv
   simp only [a1H] at hc
   subst hc
   exact ⟨none,0,rfl,Nat.le_refl _,Nat.zero_le _,.inl rfl⟩
  | whole b =>
   obtain ⟨v,rfl,_,hw⟩:=hc
   simp only [toVal] at hv
   have hb:=hB b
   unfold BlkOk at hb
   unfold WholeOk at hw
   cases h1:a0K c.H b with
   | row u l =>
    simp only [h1] at hv hb hw
    split at hv
    ·
     rename_i y hy
     obtain ⟨e,rfl⟩:=cast_eq hy
     injection e with e
     subst e
     have hv:=Option.some.inj hv
     obtain ⟨rfl,rfl⟩:=Prod.mk.inj hv
     obtain ⟨hlim,e,xs,ho,hx⟩:=hb
     rcases own_cells ho with ⟨e1,e2,_⟩ | ⟨g,cap,cur,e1,e2,e3,e4,e5,e6,e7⟩
     ·
      have:l = []:=List.eq_nil_of_length_eq_zero e2
      subst this
      refine ⟨none,0,by rw [hw,e1]; rfl,Nat.le_refl _,Nat.zero_le _,.inl rfl⟩
     ·
      refine ⟨_,cap,by rw [hw,e1],e3,hlim,.inr ⟨⟨g,0,none⟩,rfl,rfl,.inr ⟨b,by simp,by simp [h1,live],by simp [e1,blkOf]⟩,?_⟩⟩
      exact rowAt_mono (fun x cs he=>Enc_G (fun r hr=>.inl hr) he) (rowAt_of_EncL hx e2 e7)
    ·
     cases hv
   | _=>simp [h1] at hv
  | row b lo n =>
   obtain ⟨v,rfl,_,hw⟩:=hc
   simp only [toVal] at hv
   have hb:=hB b
   unfold BlkOk at hb
   unfold RowOk at hw
   cases h1:a0K c.H b with
   | row u l =>
    simp only [h1] at hv hb hw
    split at hv
    ·
     rename_i y hy
     obtain ⟨e,rfl⟩:=cast_eq hy
     injection e with e
     subst e
     have hv:=Option.some.inj hv
     obtain ⟨rfl,rfl⟩:=Prod.mk.inj hv
     obtain ⟨hlim,e,xs,ho,hx⟩:=hb
     obtain ⟨hle,hw⟩:=hw
     have hlen:((l.drop lo).take n).length = n:=by simp; omega
     have hlim':n ≤ LIM:=by omega
     rcases hw with ⟨rfl,a,cap,rfl⟩ | ⟨r,cap,cap',e1,rfl,hn⟩
     ·
      refine ⟨a,cap,by simp,by simp,by simp,.inl (by simp)⟩
     ·
      rcases own_cells ho with ⟨e1',_,_⟩ | ⟨g,cap1,cur,e1',e2,e3,e4,e5,e6,e7⟩
      ·
       rw [e1'] at e1; cases e1
      ·
       rw [e1'] at e1
       simp only [Value.slice.injEq,Option.some.injEq,Addr.mk.injEq] at e1
       obtain ⟨⟨rfl,_,_⟩,_,_⟩:=e1
       refine ⟨_,cap',by show _ = [Value.slice _ ((l.drop lo).take n).length _]; rw [hlen],by show ((l.drop lo).take n).length ≤ _; rw [hlen]; exact hn,by show ((l.drop lo).take n).length ≤ _; rw [hlen]; exact hlim',.inr ⟨_,rfl,rfl,.inr ⟨b,by simp,by simp [h1,live],by simp [e1',blkOf]⟩,?_⟩⟩
       have:=rowAt_sub (lo:=lo) (n:=n) (rowAt_mono (fun x cs he=>Enc_G (fun r hr=>.inl hr) he) (rowAt_of_EncL hx e2 e7):rowAt c.w (Enc c.w (Glent c [b]) _) _ g 0 l)
       rw [Nat.zero_add] at this
       exact this
    ·
     cases hv
   | _=>simp [h1] at hv
  | aview b p lo n =>
   obtain ⟨v,rfl,_,hw⟩:=hc
   simp only [toVal] at hv
   have hb:=hB b
   unfold BlkOk at hb
   unfold AviewOk at hw
   cases h1:a0K c.H b with
   | box t0 v0 =>
    simp only [h1] at hv hb hw
    split at hv
    ·
     rename_i m u y hgp
     split at hv
     ·
      rename_i z hz
      obtain ⟨e,rfl⟩:=cast_eq hz
      injection e with e
      subst e
      have hv:=Option.some.inj hv
      obtain ⟨rfl,rfl⟩:=Prod.mk.inj hv
      obtain ⟨r,cs0,ty,e1,e2,hcs,hf⟩:=hb
      obtain ⟨r',o,m',u',e3,e4,hle,hlim,hw⟩:=hw
      obtain ⟨hf',hy⟩:=getPath_ok v0 t0 cs0 p o (.arr m' u') _ hcs hf e4 hgp
      have hbe:=Ty.beq_eq hf'
      injection hbe with hm hu
      subst hm; subst hu
      rw [e1] at e3
      simp only [Value.pointer.injEq,Option.some.injEq,Addr.mk.injEq] at e3
      obtain ⟨rfl,_,_⟩:=e3
      have hlen:(((Arr.list m y).drop lo).take n).length = n:=by have:=Arr.list_len m y; simp; omega
      rcases hw with ⟨rfl,a,cap,rfl⟩ | ⟨cap,rfl,hn,hcap⟩
      ·
       refine ⟨a,cap,by simp,by simp,by simp,.inl (by simp)⟩
      ·
       refine ⟨_,cap,by show _ = [Value.slice _ (((Arr.list m y).drop lo).take n).length _]; rw [hlen],by show (((Arr.list m y).drop lo).take n).length ≤ _; rw [hlen]; exact hn,by show (((Arr.list m y).drop lo).take n).length ≤ _; rw [hlen]; omega,.inr ⟨_,rfl,rfl,.inr ⟨b,by simp,by simp [h1,live],by simp [e1,blkOf]⟩,?_⟩⟩
       have hr:rowAt c.w (Enc c.w c.G u) u.sz r o (Arr.list m y):=by
        refine rowAt_of_EncL (EncArr_list m y _ hy) e2 fun j d hj=>?_
        rw [List.getElem?_take] at hj
        split at hj
        ·
         rw [List.getElem?_drop] at hj
         simpa using hj
        ·
         cases hj
       exact rowAt_sub (rowAt_mono (fun x cs he=>Enc_G (fun r hr=>.inl hr) he) hr)
     ·
      cases hv
    ·
     cases hv
   | _=>simp [h1] at hv
  | _=>simp [toVal] at hv
 | _ =>
  intro v cs x lent hc hv
  cases v with
  | val u y=>exact hval _ u y cs x lent hc hv
  | _=>first
   | (simp [toVal] at hv; done)
   | (simp only [toVal] at hv; obtain ⟨rfl,rfl⟩:=Prod.mk.inj (Option.some.inj hv); exact hc)
end Sym

/- The program's types, checked against the evaluator's. -/
namespace Sym
open Go
def zCells:Ty→List Value
 | .int k=>[.int k 0]
 | .bool=>[.bool false]
 | .str=>[.string ⟨#[]⟩]
 | .nil=>[]
 | .cons a b=>zCells a ++ zCells b
 | .arr n t=>(repL n (zCells t)).flatten
 | .sl _=>[.slice none 0 0]
 | .opq=>[.pointer none]
 | .fnc=>[.nilFunc]
def mkZ (t:Ty):Value:=mkV t.isAgg (zCells t)
def isDesc:Ty→TypeDesc→Bool
 | .int k,.int l=>kindEq k l
 | .bool,.bool=>true
 | .str,.string=>true
 | .sl _,.slice _=>true
 | .opq,.pointer _=>true
 | .fnc,.func ..=>true
 | _,_=>false
mutual
def TOk (P:Program):Ty→TypeId→Prop
 | .cons a b,id=>P.cellsOf id = a.sz + b.sz∧∃ fs f r,P.underlying id = some (.struct fs)∧fs.toList = f :: r∧f.offset = 0∧TOk P a f.type∧FOk P b r a.sz
 | .nil,id=>P.cellsOf id = 0∧P.underlying id = some (.struct #[])
 | .arr n t,id=>P.cellsOf id = n * t.sz∧∃ e,P.underlying id = some (.array n e)∧TOk P t e
 | .sl t,id=>P.cellsOf id = 1∧∃ e,P.underlying id = some (.slice e)∧TOk P t e
 | .int k,id=>P.cellsOf id = 1∧P.underlying id = some (.int k)
 | .bool,id=>P.cellsOf id = 1∧P.underlying id = some .bool
 | .str,id=>P.cellsOf id = 1∧P.underlying id = some .string
 | .opq,id=>P.cellsOf id = 1∧∃ d,P.underlying id = some d∧isDesc .opq d = true
 | .fnc,id=>P.cellsOf id = 1∧∃ d,P.underlying id = some d∧isDesc .fnc d = true
def FOk (P:Program):Ty→List Field→Nat→Prop
 | .cons a b,f :: r,o=>f.offset = o∧TOk P a f.type∧FOk P b r (o + a.sz)
 | .nil,[],_=>True
 | _,_,_=>False
end
end Sym
namespace Sym
open Go
mutual
def tokB (P:Program):Ty→TypeId→Bool
 | .cons a b,id=>Nat.beq (P.cellsOf id) (a.sz + b.sz) && (match P.underlying id with
  | some (.struct fs)=>(match fs.toList with
   | f :: r=>Nat.beq f.offset 0 && (tokB P a f.type && fokB P b r a.sz)
   | []=>false)
  | _=>false)
 | .nil,id=>Nat.beq (P.cellsOf id) 0 && (match P.underlying id with
  | some (.struct fs)=>fs.toList.isEmpty
  | _=>false)
 | .arr n t,id=>Nat.beq (P.cellsOf id) (n * t.sz) && (match P.underlying id with
  | some (.array m e)=>Nat.beq m n && tokB P t e
  | _=>false)
 | .sl t,id=>Nat.beq (P.cellsOf id) 1 && (match P.underlying id with
  | some (.slice e)=>tokB P t e
  | _=>false)
 | .int k,id=>Nat.beq (P.cellsOf id) 1 && (match P.underlying id with
  | some (.int l)=>kindEq l k
  | _=>false)
 | .bool,id=>Nat.beq (P.cellsOf id) 1 && (match P.underlying id with
  | some .bool=>true
  | _=>false)
 | .str,id=>Nat.beq (P.cellsOf id) 1 && (match P.underlying id with
  | some .string=>true
  | _=>false)
 | .opq,id=>Nat.beq (P.cellsOf id) 1 && (match P.underlying id with
  | some d=>isDesc .opq d
  | _=>false)
 | .fnc,id=>Nat.beq (P.cellsOf id) 1 && (match P.underlying id with
  | some d=>isDesc .fnc d
  | _=>false)
def fokB (P:Program):Ty→List Field→Nat→Bool
 | .cons a b,f :: r,o=>Nat.beq f.offset o && (tokB P a f.type && fokB P b r (o + a.sz))
 | .nil,[],_=>true
 | _,_,_=>false
end
theorem tok_both (P:Program):∀ (t:Ty),(∀ id,tokB P t id = true→TOk P t id)∧(∀ r o,fokB P t r o = true→FOk P t r o):=by
 intro t
 induction t with
 | cons a b iha ihb =>
  refine ⟨fun id h=>?_,fun r o h=>?_⟩
  ·
   simp only [tokB,Bool.and_eq_true] at h
   obtain ⟨h1,h⟩:=h
   split at h
   ·
    rename_i fs hu
    split at h
    ·
     rename_i f r hf
     simp only [Bool.and_eq_true] at h
     exact ⟨Nat.eq_of_beq_eq_true h1,fs,f,r,hu,hf,Nat.eq_of_beq_eq_true h.1,iha.1 _ h.2.1,ihb.2 _ _ h.2.2⟩
    ·
     cases h
   ·
    cases h
  ·
   cases r with
   | nil=>simp [fokB] at h
   | cons f r =>
    simp only [fokB,Bool.and_eq_true] at h
    exact ⟨Nat.eq_of_beq_eq_true h.1,iha.1 _ h.2.1,ihb.2 _ _ h.2.2⟩
 | nil =>
  refine ⟨fun id h=>?_,fun r o h=>?_⟩
  ·
   simp only [tokB,Bool.and_eq_true] at h
   obtain ⟨h1,h⟩:=h
   split at h
   ·
    rename_i fs hu
    have:fs = #[]:=by simpa using h
    exact ⟨Nat.eq_of_beq_eq_true h1,by rw [hu,this]⟩
   ·
    cases h
  ·
   cases r with
   | nil=>trivial
   | cons f r=>simp [fokB] at h
 | arr n t ih =>
  refine ⟨fun id h=>?_,fun r o h=>by cases r <;> simp [fokB] at h⟩
  simp only [tokB,Bool.and_eq_true] at h
  obtain ⟨h1,h⟩:=h
  split at h
  ·
   rename_i m e hu
   simp only [Bool.and_eq_true] at h
   have:=Nat.eq_of_beq_eq_true h.1
   subst this
   exact ⟨Nat.eq_of_beq_eq_true h1,e,hu,ih.1 _ h.2⟩
  ·
   cases h
 | sl t ih =>
  refine ⟨fun id h=>?_,fun r o h=>by cases r <;> simp [fokB] at h⟩
  simp only [tokB,Bool.and_eq_true] at h
  obtain ⟨h1,h⟩:=h
  split at h
  ·
   rename_i e hu
   exact ⟨Nat.eq_of_beq_eq_true h1,e,hu,ih.1 _ h⟩
  ·
   cases h
 | int k =>
  refine ⟨fun id h=>?_,fun r o h=>by cases r <;> simp [fokB] at h⟩
  simp only [tokB,Bool.and_eq_true] at h
  obtain ⟨h1,h⟩:=h
  split at h
  ·
   rename_i l hu
   have:=kindEq_eq h
   subst this
   exact ⟨Nat.eq_of_beq_eq_true h1,hu⟩
  ·
   cases h
 | bool =>
  refine ⟨fun id h=>?_,fun r o h=>by cases r <;> simp [fokB] at h⟩
  simp only [tokB,Bool.and_eq_true] at h
  obtain ⟨h1,h⟩:=h
  split at h
  ·
   rename_i hu
   exact ⟨Nat.eq_of_beq_eq_true h1,hu⟩
  ·
   cases h
 | str =>
  refine ⟨fun id h=>?_,fun r o h=>by cases r <;> simp [fokB] at h⟩
  simp only [tokB,Bool.and_eq_true] at h
  obtain ⟨h1,h⟩:=h
  split at h
  ·
   rename_i hu
   exact ⟨Nat.eq_of_beq_eq_true h1,hu⟩
  ·
   cases h
 | opq =>
  refine ⟨fun id h=>?_,fun r o h=>by cases r <;> simp [fokB] at h⟩
  simp only [tokB,Bool.and_eq_true] at h
  obtain ⟨h1,h⟩:=h
  split at h
  ·
   rename_i d hu
   exact ⟨Nat.eq_of_beq_eq_true h1,d,hu,h⟩
  ·
   cases h
 | fnc =>
  refine ⟨fun id h=>?_,fun r o h=>by cases r <;> simp [fokB] at h⟩
  simp only [tokB,Bool.and_eq_true] at h
  obtain ⟨h1,h⟩:=h
  split at h
  ·
   rename_i d hu
   exact ⟨Nat.eq_of_beq_eq_true h1,d,hu,h⟩
  ·
   cases h
def sameZ:Value→Value→Bool
 | .int k n,.int l m=>kindEq k l && (match n,m with | .ofNat 0,.ofNat 0=>true | _,_=>false)
 | .bool false,.bool false=>true
 | .string ⟨a⟩,.string ⟨b⟩=>a.toList.isEmpty && b.toList.isEmpty
 | .slice none 0 0,.slice none 0 0=>true
 | .pointer none,.pointer none=>true
 | .nilFunc,.nilFunc=>true
 | _,_=>false
theorem sameZ_eq {a b:Value} (h:sameZ a b = true):a = b:=by
 unfold sameZ at h
 split at h
 ·
  rename_i k n l m
  simp only [Bool.and_eq_true] at h
  obtain ⟨h1,h2⟩:=h
  rw [kindEq_eq h1]
  split at h2
  ·
   rfl
  ·
   cases h2
 ·
  rfl
 ·
  rename_i a b
  simp only [Bool.and_eq_true,List.isEmpty_iff] at h
  rw [show a = #[] from Array.toList_eq_nil_iff.1 h.1,show b = #[] from Array.toList_eq_nil_iff.1 h.2]
 ·
  rfl
 ·
  rfl
 ·
  rfl
 ·
  cases h
def sameZs:List Value→List Value→Bool
 | [],[]=>true
 | a :: l,b :: r=>sameZ a b && sameZs l r
 | _,_=>false
theorem sameZs_eq:∀ {a b:List Value},sameZs a b = true→a = b
 | [],[],_=>rfl
 | a :: l,b :: r,h=>by
  simp only [sameZs,Bool.and_eq_true] at h
  rw [sameZ_eq h.1,sameZs_eq h.2]
 | [],_ :: _,h=>by simp [sameZs] at h
 | _ :: _,[],h=>by simp [sameZs] at h
def zOkB (t:Ty) (z:Value):Bool :=
 match t.isAgg,z with
 | true,.agg cs=>sameZs cs.toList (zCells t)
 | true,_=>false
 | false,z=>sameZs [z] (zCells t)
theorem zOk_eq {t:Ty} {z:Value} (h:zOkB t z = true):z = mkZ t:=by
 unfold zOkB at h
 split at h
 ·
  rename_i cs hb
  have:=sameZs_eq h
  simp [mkZ,hb,mkV,← this]
 ·
  cases h
 ·
  rename_i hb
  have:=sameZs_eq h
  simp [mkZ,hb,mkV,← this]
structure TI (P:Program) (id:TypeId) (t:Ty):Prop where
 ok:TOk P t id
 info:∃ i,P.info? id = some i∧i.bytes ≤ 131072∧(i.zero = some (mkZ t) ∨ t = .opq)
 elem:∀ t',t = .sl t'→∃ e,P.underlying id = some (.slice e)∧TOk P t' e∧∃ i,P.info? e = some i∧i.bytes ≤ 131072∧(i.zero = some (mkZ t') ∨ t' = .opq)
def infB (P:Program) (id:TypeId) (t:Ty):Bool :=
 match P.info? id with
 | some i=>Nat.ble i.bytes 131072 && (t.isOpq || (match i.zero with | some z=>zOkB t z | none=>false))
 | none=>false
theorem inf_ok {P:Program} {id:TypeId} {t:Ty} (h:infB P id t = true):∃ i,P.info? id = some i∧i.bytes ≤ 131072∧(i.zero = some (mkZ t) ∨ t = .opq):=by
 unfold infB at h
 split at h
 ·
  rename_i i hi
  simp only [Bool.and_eq_true,Bool.or_eq_true] at h
  refine ⟨i,hi,Nat.le_of_ble_eq_true h.1,?_⟩
  rcases h.2 with h2 | h2
  ·
   right; cases t <;> first | rfl | cases h2
  ·
   left
   split at h2
   ·
    rename_i z hz; rw [hz,zOk_eq h2]
   ·
    cases h2
 ·
  cases h
def tiB (P:Program) (id:TypeId) (t:Ty):Bool :=
 tokB P t id && (infB P id t && (match t with
  | .sl t'=>(match P.underlying id with
   | some (.slice e)=>infB P e t'
   | _=>false)
  | _=>true))
theorem ti_ok {P:Program} {id:TypeId} {t:Ty} (h:tiB P id t = true):TI P id t:=by
 simp only [tiB,Bool.and_eq_true] at h
 obtain ⟨h1,h2,h3⟩:=h
 have hok:=(tok_both P t).1 id h1
 refine ⟨hok,inf_ok h2,fun t' ht=>?_⟩
 subst ht
 obtain ⟨_,e,hu,he⟩:=hok
 simp only [hu] at h3
 exact ⟨e,hu,he,inf_ok h3⟩
theorem TOk.size {P:Program} {t:Ty} {id:TypeId} (h:TOk P t id):P.cellsOf id = t.sz:=by
 cases t <;> simp only [TOk] at h <;> exact h.1
theorem TOk.und {P:Program} {t:Ty} {id:TypeId} (h:TOk P t id):∃ d,P.underlying id = some d∧(match d with | .struct _ | .array _ _=>true | _=>false) = t.isAgg:=by
 cases t with
 | cons a b=>obtain ⟨_,fs,f,r,hu,_⟩:=h; exact ⟨_,hu,rfl⟩
 | nil=>obtain ⟨_,hu⟩:=h; exact ⟨_,hu,rfl⟩
 | arr n t=>obtain ⟨_,e,hu,_⟩:=h; exact ⟨_,hu,rfl⟩
 | sl t=>obtain ⟨_,e,hu,_⟩:=h; exact ⟨_,hu,rfl⟩
 | int k=>obtain ⟨_,hu⟩:=h; exact ⟨_,hu,rfl⟩
 | bool=>obtain ⟨_,hu⟩:=h; exact ⟨_,hu,rfl⟩
 | str=>obtain ⟨_,hu⟩:=h; exact ⟨_,hu,rfl⟩
 | opq=>obtain ⟨_,d,hu,hd⟩:=h; exact ⟨_,hu,by cases d <;> first | rfl | (simp [isDesc] at hd)⟩
 | fnc=>obtain ⟨_,d,hu,hd⟩:=h; exact ⟨_,hu,by cases d <;> first | rfl | (simp [isDesc] at hd)⟩
theorem info_of_und {P:Program} {id:TypeId} {d:TypeDesc} (h:P.underlying id = some d):∃ i,P.info? id = some i∧i.size = P.cellsOf id:=by
 unfold Program.underlying at h
 cases hi:P.info? id with
 | none=>simp [hi] at h
 | some i=>exact ⟨i,rfl,by simp [Program.cellsOf,hi]⟩
theorem TOk.run_size {P:Program} {t:Ty} {id:TypeId} (h:TOk P t id) (w:World):(Go.sizeOf id).run P w = .ok t.sz w:=by
 obtain ⟨d,hu,_⟩:=h.und
 obtain ⟨i,hi,hs⟩:=info_of_und hu
 simp [Go.sizeOf,typeInfo,hi,hs,h.size]
theorem TOk.run_agg {P:Program} {t:Ty} {id:TypeId} (h:TOk P t id) (w:World):(isAgg id).run P w = .ok t.isAgg w:=by
 obtain ⟨d,hu,hd⟩:=h.und
 rw [← hd]
 unfold isAgg
 rw [Sem.run_bind,run_underlying hu,Result.andThen_ok]
 cases d <;> rfl
theorem TI.run_zero {P:Program} {t:Ty} {id:TypeId} (h:TI P id t) (ht:t ≠ .opq) (w:World):(zeroValue id).run P w = .ok (mkZ t) w:=by
 obtain ⟨i,hi,_,hz⟩:=h.info
 have hz:=hz.resolve_right ht
 simp [zeroValue,typeInfo,hi,hz]
theorem cells_mkV {t:Ty} {cs:List Value} (h:cs.length = t.sz) (h1:∀ v ∈ cs,v.oneCell' = true):(mkV t.isAgg cs).cells = cs.toArray:=by
 cases hb:t.isAgg with
 | true=>rfl
 | false =>
  have:cs.length = 1:=by rw [h]; cases t <;> first | rfl | cases hb
  match cs,this with
  | [v],_ =>
   simp only [mkV,List.headD_cons]
   have:=h1 v (by simp)
   cases v <;> first | rfl | (simp [Value.oneCell'] at this)
theorem zCells_len (t:Ty):(zCells t).length = t.sz:=by
 induction t with
 | cons a b iha ihb=>simp [zCells,Ty.sz,iha,ihb]
 | arr n t ih =>
  simp only [zCells,Ty.sz]
  induction n with
  | zero=>simp [repL]
  | succ n ihn=>simp [repL,ihn,ih,Nat.succ_mul]; omega
 | _=>rfl
theorem zCells_one (t:Ty):∀ v ∈ zCells t,v.oneCell' = true:=by
 induction t with
 | cons a b iha ihb=>intro v hv; simp only [zCells,List.mem_append] at hv; exact hv.elim (iha v) (ihb v)
 | arr n t ih =>
  intro v hv
  simp only [zCells] at hv
  induction n with
  | zero=>simp [repL] at hv
  | succ n ihn=>simp only [repL,List.flatten_cons,List.mem_append] at hv; exact hv.elim (ih v) ihn
 | nil=>intro v hv; simp [zCells] at hv
 | _=>intro v hv; simp only [zCells,List.mem_singleton] at hv; subst hv; rfl
theorem wrap_zero (k:IntKind):k.wrap 0 = 0:=by cases k <;> rfl
theorem flat_noOpq:∀ (t:Ty),t.flat = true→t.noOpq = true:=by
 intro t
 induction t with
 | cons a b iha ihb=>intro h; simp only [Ty.flat,Bool.and_eq_true] at h; simp [Ty.noOpq,iha h.1,ihb h.2]
 | arr n t ih=>intro h; exact ih h
 | sl t _=>intro h; cases h
 | opq=>intro h; cases h
 | _=>intro _; rfl
theorem enc_zero {w:World} {G:Nat→Prop}:∀ (t:Ty),t.noOpq = true→Enc w G t t.zero (zCells t):=by
 intro t
 induction t with
 | int k=>intro _; show _ = _; simp [zCells,Ty.zero,I.of,wrap_zero]
 | bool=>intro _; rfl
 | str=>intro _; exact ⟨rfl,Nat.zero_le _⟩
 | nil=>intro _; rfl
 | cons a b iha ihb =>
  intro h
  simp only [Ty.noOpq,Bool.and_eq_true] at h
  exact ⟨_,_,rfl,iha h.1,ihb h.2⟩
 | arr n t ih =>
  intro h
  show EncArr _ n (Arr.rep t.zero n) _
  simp only [zCells]
  induction n with
  | zero=>rfl
  | succ n ihn=>exact ⟨_,_,rfl,ih h,ihn h⟩
 | sl t _=>intro _; exact ⟨none,0,rfl,Nat.le_refl _,Nat.zero_le _,.inl rfl⟩
 | opq=>intro h; cases h
 | fnc=>intro _; rfl
theorem zeroPV_ok {c:Cx}:∀ (t:Ty),t.zOk = true→a1H c (zeroPV t) (zCells t)∧fits (zeroPV t) t = true:=by
 intro t
 induction t with
 | int k=>intro _; exact ⟨by show _ = _; simp [zCells,I.of,wrap_zero],Ty.beq_refl _⟩
 | bool=>intro _; exact ⟨rfl,rfl⟩
 | str=>intro _; exact ⟨⟨rfl,Nat.zero_le _⟩,rfl⟩
 | nil=>intro _; exact ⟨rfl,rfl⟩
 | cons a b iha ihb =>
  intro h
  simp only [Ty.zOk,Bool.and_eq_true] at h
  simp only [zeroPV]
  split
  ·
   rename_i hf
   exact ⟨enc_zero _ (flat_noOpq _ hf),Ty.beq_refl _⟩
  ·
   exact ⟨⟨_,_,rfl,(iha h.1).1,(ihb h.2).1⟩,by simp [fits,(iha h.1).2,(ihb h.2).2]⟩
 | arr n t ih =>
  intro h
  exact ⟨enc_zero (.arr n t) h,Ty.beq_refl _⟩
 | sl t _=>intro _; exact ⟨rfl,rfl⟩
 | opq=>intro _; exact ⟨rfl,rfl⟩
 | fnc=>intro _; exact ⟨rfl,rfl⟩
end Sym

/- New blocks, stores, and the frame of an operation's law. -/
namespace Sym
open Go
theorem blkAt_put:∀ (H:List Blk) (i j:Nat) (b:Blk),a0K (putBlk H i b) j = if j = i then b else a0K H j
 | [],0,0,b=>by simp [putBlk,a0K]
 | [],0,j + 1,b=>by simp [putBlk,a0K]
 | [],i + 1,0,b=>by simp [putBlk,a0K]
 | [],i + 1,j + 1,b=>by simp [putBlk,a0K,blkAt_put [] i j b]
 | x :: H,0,0,b=>by simp [putBlk,a0K]
 | x :: H,0,j + 1,b=>by simp [putBlk,a0K]
 | x :: H,i + 1,0,b=>by simp [putBlk,a0K]
 | x :: H,i + 1,j + 1,b=>by simp [putBlk,a0K,blkAt_put H i j b]
theorem isAgg_fits:∀ {v:PV} {t:Ty},fits v t = true→isAggPV v = t.isAgg:=by
 intro v t h
 cases v with
 | val u x=>have:=Ty.beq_eq h; subst this; rfl
 | pair a b=>cases t <;> first | rfl | (simp [fits] at h)
 | _=>cases t <;> first | rfl | (simp [fits] at h)
theorem Enc_one {w:World} {G:Nat→Prop}:∀ (t:Ty) (x:t.D) (cs:List Value),Enc w G t x cs→∀ v ∈ cs,v.oneCell' = true:=by
 intro t
 induction t with
 | int k=>intro x cs h v hv; simp only [Enc] at h; subst h; simp only [List.mem_singleton] at hv; subst hv; rfl
 | bool=>intro x cs h v hv; simp only [Enc] at h; subst h; simp only [List.mem_singleton] at hv; subst hv; rfl
 | str=>intro x cs h v hv; obtain ⟨h,_⟩:=h; subst h; simp only [List.mem_singleton] at hv; subst hv; rfl
 | nil=>intro x cs h v hv; simp only [Enc] at h; subst h; simp at hv
 | cons a b iha ihb =>
  intro x cs h v hv
  obtain ⟨c1,c2,rfl,h1,h2⟩:=h
  simp only [List.mem_append] at hv
  exact hv.elim (iha _ _ h1 v) (ihb _ _ h2 v)
 | arr n t ih =>
  intro x cs h v hv
  have key:∀ (n:Nat) (x:Arr t.D n) (cs:List Value),EncArr (Enc w G t) n x cs→∀ v ∈ cs,v.oneCell' = true:=by
   intro n
   induction n with
   | zero=>intro x cs h v hv; simp only [EncArr] at h; subst h; simp at hv
   | succ n ihn =>
    intro x cs h v hv
    obtain ⟨c1,c2,rfl,h1,h2⟩:=h
    simp only [List.mem_append] at hv
    exact hv.elim (ih _ _ h1 v) (ihn _ _ h2 v)
  exact key n x cs h v hv
 | sl t _=>intro x cs h v hv; obtain ⟨a,c,h,_⟩:=h; subst h; simp only [List.mem_singleton] at hv; subst hv; rfl
 | opq=>intro x cs h; exact h.elim
 | fnc=>intro x cs h v hv; simp only [Enc] at h; subst h; simp only [List.mem_singleton] at hv; subst hv; cases (show Option Nat from x) <;> rfl
theorem cells_one {c:Cx}:∀ (v:PV) (cs:List Value),a1H c v cs→∀ x ∈ cs,x.oneCell' = true:=by
 intro v
 induction v with
 | val t x=>intro cs h; exact Enc_one t x cs h
 | pair a b iha ihb =>
  intro cs h x hx
  obtain ⟨c1,c2,rfl,h1,h2⟩:=h
  simp only [List.mem_append] at hx
  exact hx.elim (iha _ h1 x) (ihb _ h2 x)
 | nils=>intro cs h x hx; simp only [a1H] at h; subst h; simp only [List.mem_singleton] at hx; subst hx; rfl
 | npt=>intro cs h x hx; simp only [a1H] at h; subst h; simp only [List.mem_singleton] at hx; subst hx; rfl
 | fn f=>intro cs h x hx; simp only [a1H] at h; subst h; simp only [List.mem_singleton] at hx; subst hx; rfl
 | bptr t y=>intro cs h x hx; obtain ⟨ad,ds,rfl,_⟩:=h; simp only [List.mem_singleton] at hx; subst hx; rfl
 | ptr b p=>intro cs h x hx; obtain ⟨v,rfl,h1,_⟩:=h; simp only [List.mem_singleton] at hx; subst hx; exact h1
 | whole b=>intro cs h x hx; obtain ⟨v,rfl,h1,_⟩:=h; simp only [List.mem_singleton] at hx; subst hx; exact h1
 | row b lo n=>intro cs h x hx; obtain ⟨v,rfl,h1,_⟩:=h; simp only [List.mem_singleton] at hx; subst hx; exact h1
 | aview b p lo n=>intro cs h x hx; obtain ⟨v,rfl,h1,_⟩:=h; simp only [List.mem_singleton] at hx; subst hx; exact h1
 | cut b k=>intro cs h x hx; obtain ⟨v,rfl,h1,_⟩:=h; simp only [List.mem_singleton] at hx; subst hx; exact h1
 | iface t v _=>intro cs h x hx; obtain ⟨ds,rfl,_⟩:=h; simp only [List.mem_singleton] at hx; subst hx; rfl
 | clo f v _=>intro cs h x hx; obtain ⟨us,rfl,_⟩:=h; simp only [List.mem_singleton] at hx; subst hx; rfl
 | tup a=>intro cs h; exact h.elim
 | undef=>intro cs h; exact h.elim
theorem v_int {c:Cx} {k:IntKind} {x:I k} {v:Value} (h:VOk c (.val (.int k) x) v):v = .int k x.val:=by
 obtain ⟨cs,h1,h2⟩:=h; simp only [a1H,Enc] at h1; subst h1; exact h2
theorem v_bool {c:Cx} {x:Bool} {v:Value} (h:VOk c (.val .bool x) v):v = .bool x:=by
 obtain ⟨cs,h1,h2⟩:=h; simp only [a1H,Enc] at h1; subst h1; exact h2
theorem ok_int {c:Cx} {k:IntKind} (x:I k):VOk c (.val (.int k) x) (.int k x.val):=⟨_,rfl,rfl⟩
theorem ok_bool {c:Cx} (x:Bool):VOk c (.val .bool x) (.bool x):=⟨_,rfl,rfl⟩
section
variable {P:Program} {base:World} {G0 own0:Nat→Prop}
def OpRes (P:Program) (base:World) (G0 own0:Nat→Prop) (o:Oper) (a:Act) (c:Cx) (pv:PV) (δ:List (Nat × Blk)):Prop :=
 ∀ (K:Act→World→Prop) (Q:Exit→Act→World→Prop),
  (∀ v c',Ext c c'→Mem base G0 own0 c'→c'.H = putBlks c.H δ→VOk c' pv v→K (a.put o.dst v) c'.w)→o.wp P a c.w K Q
theorem Ext.refl (c:Cx):Ext c c:=⟨fun r h=>⟨h,rfl⟩,fun b=>BlkLe_same rfl rfl⟩
theorem opres_value {o:Oper} {a:Act} {c c':Cx} {pv:PV} {δ:List (Nat × Blk)} {v:Value} (hr:(execOp a.eval o).run P c.w = .ok (.value v) c'.w)
  (hE:Ext c c') (hM:Mem base G0 own0 c') (hH:c'.H = putBlks c.H δ) (hv:VOk c' pv v):OpRes P base G0 own0 o a c pv δ:=by
 intro K Q h
 unfold Oper.wp
 rw [hr]
 exact h v c' hE hM hH hv
theorem opres_skip {o:Oper} {a:Act} {c c':Cx} {δ:List (Nat × Blk)} (hr:(execOp a.eval o).run P c.w = .ok .skip c'.w)
  (hE:Ext c c') (hM:Mem base G0 own0 c') (hH:c'.H = putBlks c.H δ):OpRes P base G0 own0 o a c .undef δ:=by
 intro K Q h
 unfold Oper.wp
 rw [hr]
 exact h Go.undef c' hE hM hH trivial
theorem a1L {o:Oper} {a:Act} {c:Cx} {pv:PV} {v:Value} (hM:Mem base G0 own0 c) (hr:(execOp a.eval o).run P c.w = .ok (.value v) c.w) (hv:VOk c pv v) :
  OpRes P base G0 own0 o a c pv []:=opres_value hr (Ext.refl c) hM rfl hv
def upd (ρ:Nat→Value) (b:Nat) (v:Value):Nat→Value:=fun i=>if i = b then v else ρ i
def Cx.next (base:World) (G0:Nat→Prop) (w:World) (ρ:Nat→Value) (H:List Blk):Cx:=⟨w,Gof base G0 w ρ H,ρ,H⟩
theorem heap_new (w:World) (o:Obj):(w.alloc o).heap[w.heap.size]? = some o:=by show (w.heap.push o)[w.heap.size]? = _; simp
theorem heap_old (w:World) (o:Obj) {r:Nat} (h:r < w.heap.size):(w.alloc o).heap[r]? = w.heap[r]?:=by
 show (w.heap.push o)[r]? = _; rw [Array.getElem?_push,if_neg (by omega)]
theorem turn_box {c:Cx} {nb:Nat} (hn:a0K c.H nb = .unborn) (t:Ty) (pv:PV) (cs:Array Value) (e:TypeId) :
  Turn base G0 own0 c (Cx.next base G0 (c.w.alloc (.cells cs e)) (upd c.ρ nb (.pointer (some ⟨c.w.heap.size,0,none⟩))) (putBlk c.H nb (.box t pv))) (fun b=>b = nb):=by
 refine ⟨rfl,rfl,rfl,by simp [Cx.next],fun b hb=>by simp [Cx.next,upd,hb],fun b hb=>by simp [Cx.next,blkAt_put,hb],fun r hr _=>heap_old _ _ hr,fun b hb=>?_,fun b r hb hl he=>?_,fun b b' r hb hb' _ _ _ _=>hb.trans hb'.symm,rfl⟩
 ·
  subst hb; simp [BlkLe,hn]
 ·
  subst hb
  simp only [Cx.next,upd,if_true,blkOf,Option.some.injEq] at he
  left; omega
theorem mem_box {c:Cx} (hM:Mem base G0 own0 c) {nb:Nat} (hn:a0K c.H nb = .unborn) {t:Ty} {pv:PV} {cs:List Value} (e:TypeId) (hc:a1H c pv cs) (hf:fits pv t = true) :
  ∃ c',c'.w = c.w.alloc (.cells cs.toArray e)∧c'.H = putBlks c.H [(nb,.box t pv)]∧Ext c c'∧Mem base G0 own0 c'∧VOk c' (.ptr nb []) (.pointer (some ⟨c.w.heap.size,0,none⟩)):=by
 have hT:=turn_box (base:=base) (G0:=G0) (own0:=own0) hn t pv cs.toArray e
 have hE:=hT.ext hM
 refine ⟨_,rfl,rfl,hE,hT.mem hM fun b hb=>?_,?_⟩
 ·
  subst hb
  unfold BlkOk
  simp only [Cx.next,blkAt_put,if_true]
  exact ⟨c.w.heap.size,cs,e,by simp [upd],heap_new _ _,cells_ext hE _ _ hc,hf⟩
 ·
  refine ⟨_,⟨_,rfl,rfl,?_⟩,rfl⟩
  unfold PtrOk
  simp only [Cx.next,blkAt_put,if_true]
  exact ⟨c.w.heap.size,0,t,by simp [upd],by cases t <;> rfl,rfl⟩
theorem mem_store {c:Cx} (hM:Mem base G0 own0 c) {b r:Nat} {t:Ty} {pv pv':PV} {cs cs':List Value} {e:TypeId} (hb:a0K c.H b = .box t pv) (hρ:c.ρ b = .pointer (some ⟨r,0,none⟩))
  (hg:c.w.heap[r]? = some (.cells cs.toArray e (0,0))) (hc:a1H c pv' cs') (hf:fits pv' t = true) :
  ∃ c',c'.w = c.w.setRow r cs'.toArray∧c'.H = putBlks c.H [(b,.box t pv')]∧Ext c c'∧Mem base G0 own0 c':=by
 have hlt:r < c.w.heap.size:=(Array.getElem?_eq_some_iff.1 hg).1
 have hT:Turn base G0 own0 c (Cx.next base G0 (c.w.setRow r cs'.toArray) c.ρ (putBlk c.H b (.box t pv'))) (fun i=>i = b):=by
  refine ⟨rfl,rfl,rfl,by simp [Cx.next],fun i hi=>rfl,fun i hi=>by simp [Cx.next,blkAt_put,hi],fun k hk h=>?_,fun i hi=>?_,fun i k hi hl he=>?_,fun i i' k hi hi' _ _ _ _=>hi.trans hi'.symm,rfl⟩
  ·
   exact setRow_other _ _ _ _ fun e=>h b rfl (by simp [hb,live]) (by simp [hρ,blkOf,e])
  ·
   subst hi; simp [BlkLe,hb,Cx.next,blkAt_put]
  ·
   subst hi; exact .inr ⟨i,rfl,by simp [hb,live],he⟩
 have hE:=hT.ext hM
 refine ⟨_,rfl,rfl,hE,hT.mem hM fun i hi=>?_⟩
 subst hi
 unfold BlkOk
 simp only [Cx.next,blkAt_put,if_true]
 exact ⟨r,cs',e,hρ,setRow_heap _ _ _ _ _ _ hg,cells_ext hE _ _ hc,hf⟩
theorem mem_kill {c:Cx} (hM:Mem base G0 own0 c):∀ (l:List Nat),(∀ b ∈ l,live (a0K c.H b) = true)→∃ c',c'.w = c.w∧c'.H = putBlks c.H (kill l)∧c'.ρ = c.ρ∧Ext c c'∧Mem base G0 own0 c' ∧
  (∀ r,Glent c l r→c'.G r)∧(∀ b,b ∉ l→a0K c'.H b = a0K c.H b):=by
 intro l hl
 have hput:∀ (l:List Nat) (H:List Blk) (b:Nat),a0K (putBlks H (kill l)) b = if b ∈ l then .dead else a0K H b:=by
  intro l
  induction l with
  | nil=>intro H b; simp [kill,putBlks]
  | cons x l ih =>
   intro H b
   have:putBlks H (kill (x :: l)) = putBlks (putBlk H x .dead) (kill l):=rfl
   rw [this,ih,blkAt_put]
   by_cases h1:b ∈ l
   ·
    simp [h1]
   ·
    by_cases h2:b = x <;> simp [h1,h2]
 have hT:Turn base G0 own0 c (Cx.next base G0 c.w c.ρ (putBlks c.H (kill l))) (fun i=>i ∈ l):=by
  refine ⟨rfl,rfl,rfl,Nat.le_refl _,fun i hi=>rfl,fun i hi=>by simp [Cx.next,hput,hi],fun k hk h=>rfl,fun i hi=>?_,fun i k hi hl' _=>?_,fun i i' k hi hi' hl'=>?_,rfl⟩
  ·
   have:=hl i hi
   unfold BlkLe
   simp only [Cx.next,hput,hi,if_true]
   cases h1:a0K c.H i <;> simp [h1,live] at this ⊢
  ·
   simp [Cx.next,hput,hi,live] at hl'
  ·
   simp [Cx.next,hput,hi,live] at hl'
 refine ⟨Cx.next base G0 c.w c.ρ (putBlks c.H (kill l)),rfl,rfl,rfl,hT.ext hM,hT.mem hM fun i hi=>?_,fun r hr=>?_,fun b hb=>by simp [Cx.next,hput,hb]⟩
 ·
  unfold BlkOk; simp [Cx.next,hput,hi]
 ·
  rcases hr with hr | ⟨b,hb,hlb,he⟩
  ·
   exact ((hT.ext hM).G r hr).1
  ·
   refine ⟨?_,(hM.blk b).lt hlb he,fun i hi he'=>?_⟩
   ·
    rcases hM.own b r hlb he with h1 | h1
    ·
     exact .inl (hM.sub r h1)
    ·
     exact .inr h1
   ·
    simp only [Cx.next,hput] at hi
    split at hi
    ·
     cases hi
    ·
     rename_i hni
     exact hni (by rw [hM.inj i b r hi hlb he' he]; exact hb)
theorem own_one {w:World} {e:TypeId} {s n:Nat} {v:Value} {xs:List Value} (h:w.ownsRow 0 e s v n xs):v.oneCell' = true:=by
 rcases h.2 with ⟨rfl,_⟩ | ⟨g,cap,cur,rfl,_⟩ <;> rfl
theorem EncL_app {X:Type} {E:X→List Value→Prop}:∀ (l l':List X) (xs xs':List Value),EncL E l xs→EncL E l' xs'→EncL E (l ++ l') (xs ++ xs')
 | [],_,_,_,h,h'=>by simp only [EncL] at h; subst h; exact h'
 | x :: l,l',_,xs',h,h'=>by
  obtain ⟨c1,c2,rfl,h1,h2⟩:=h
  exact ⟨c1,c2 ++ xs',by simp,h1,EncL_app l l' c2 xs' h2 h'⟩
def oldDead:Option Nat→List (Nat × Blk)
 | some i=>[(i,.dead)]
 | none=>[]
theorem mem_row {c:Cx} (hM:Mem base G0 own0 c) {nb:Nat} (hn:a0K c.H nb = .unborn) {w':World} {hd:Value} {t:Ty} {l:List t.D} {e:TypeId} {xs:List Value} (row:Option Nat)
  (hg:c.w.grownBy w' row) (ho:w'.ownsRow 0 e t.sz hd l.length xs) (hx:EncL (Enc c.w c.G t) l xs) (hlim:l.length ≤ LIM) (b:Option Nat)
  (hb:∀ i,b = some i→live (a0K c.H i) = true∧i ≠ nb) (hrow:∀ r,row = some r→r < c.w.heap.size→∃ i,b = some i∧blkOf (c.ρ i) = some r)
  (hnew:∀ r,blkOf hd = some r→c.w.heap.size ≤ r ∨ ∃ i,b = some i∧blkOf (c.ρ i) = some r) :
  ∃ c',c'.w = w'∧c'.H = putBlks c.H (oldDead b ++ [(nb,.row t l)])∧Ext c c'∧Mem base G0 own0 c'∧VOk c' (.whole nb) hd:=by
 let δ:List (Nat × Blk):=oldDead b ++ [(nb,.row t l)]
 have hput:∀ j,a0K (putBlks c.H δ) j = if j = nb then .row t l else if b = some j then .dead else a0K c.H j:=by
  intro j
  cases b with
  | none=>simp [δ,oldDead,putBlks,blkAt_put]
  | some i =>
   simp only [δ,oldDead,List.singleton_append,putBlks,blkAt_put,Option.some.injEq]
   by_cases h1:j = nb
   ·
    simp [h1]
   ·
    simp only [h1,if_false]
    by_cases h2:j = i
    ·
     simp [h2]
    ·
     rw [if_neg h2,if_neg (fun h=>h2 h.symm)]
 have hT:Turn base G0 own0 c (Cx.next base G0 w' (upd c.ρ nb hd) (putBlks c.H δ)) (fun j=>j = nb ∨ b = some j):=by
  refine ⟨hg.os,hg.tape,hg.output,hg.size,fun j hj=>by simp only [not_or] at hj; simp [Cx.next,upd,hj.1],fun j hj=>by simp only [not_or] at hj; simp [Cx.next,hput,hj.1,hj.2],fun k hk h=>?_,fun j hj=>?_,fun j k hj hl he=>?_,fun j j' k hj hj' hl hl' he he'=>?_,rfl⟩
  ·
   refine hg.block k hk fun e=>?_
   obtain ⟨i,hi,hr⟩:=hrow k e.symm hk
   exact h i (.inr hi) (hb i hi).1 hr
  ·
   unfold BlkLe
   rcases hj with hj | hj
   ·
    subst hj; simp [hn]
   ·
    have:=hb j hj
    simp only [Cx.next,hput,this.2,if_false,hj,if_true]
    cases a0K c.H j <;> trivial
  ·
   rcases hj with hj | hj
   ·
    subst hj
    simp only [Cx.next,upd,if_true] at he
    rcases hnew k he with h1 | ⟨i,h1,h2⟩
    ·
     exact .inl h1
    ·
     exact .inr ⟨i,.inr h1,(hb i h1).1,h2⟩
   ·
    exfalso
    simp [Cx.next,hput,(hb j hj).2,hj,live] at hl
  ·
   rcases hj with hj | hj
   ·
    rcases hj' with hj' | hj'
    ·
     rw [hj,hj']
    ·
     exfalso; simp [Cx.next,hput,(hb j' hj').2,hj',live] at hl'
   ·
    exfalso; simp [Cx.next,hput,(hb j hj).2,hj,live] at hl
 have hE:=hT.ext hM
 refine ⟨_,rfl,rfl,hE,hT.mem hM fun j hj=>?_,⟨_,⟨_,rfl,own_one ho,?_⟩,rfl⟩⟩
 ·
  unfold BlkOk
  rcases hj with hj | hj
  ·
   subst hj
   simp only [Cx.next,hput,if_true]
   exact ⟨hlim,e,xs,by simpa [upd] using ho,EncL_mono (fun x cs=>hE.enc) l xs hx⟩
  ·
   simp [Cx.next,hput,(hb j hj).2,hj]
 ·
  unfold WholeOk
  simp [Cx.next,hput,upd]
theorem grown_alloc (w:World) (o:Obj) (row:Option Nat):w.grownBy (w.alloc o) row:=⟨rfl,rfl,rfl,by simp,fun k hk _=>heap_old _ _ hk⟩
theorem alloc_owns (w:World) (cs:List Value) (e:TypeId) (s n cap:Nat) (hs:cs.length = cap * s) (hn:n ≤ cap) (hm:cap ≤ maxLen) :
  (w.alloc (.cells cs.toArray e)).ownsRow 0 e s (.slice (some ⟨w.heap.size,0,none⟩) n cap) n (cs.take (n * s)):=by
 refine ⟨?_,.inr ⟨w.heap.size,cap,cs.toArray,rfl,Nat.zero_le _,heap_new _ _,hn,hm,by simpa using hs,by simp⟩⟩
 have:n * s ≤ cap * s:=Nat.mul_le_mul_right _ hn
 simp; omega
end
end Sym

/- Equality of plain values, as the machine asks it. -/
namespace Sym
open Go
mutual
def eqtB (P:Program):Ty→TypeId→Bool
 | .cons a b,id=>!P.stoodInHeld id && (match P.underlying id with
  | some (.struct fs)=>(match fs.toList with
   | f :: r => (f.name != "_") && (eqtB P a f.type && eqfB P b r)
   | []=>false)
  | _=>false)
 | .nil,id=>!P.stoodInHeld id
 | .arr _ t,id=>(match P.underlying id with
  | some (.array _ e)=>eqtB P t e
  | _=>false)
 | .int _,_=>true
 | .bool,_=>true
 | _,_=>false
def eqfB (P:Program):Ty→List Field→Bool
 | .cons a b, f :: r => (f.name != "_") && (eqtB P a f.type && eqfB P b r)
 | .nil,[]=>true
 | _,_=>false
end
def Ty.dep:Ty→Nat
 | .cons a b=>Nat.max a.dep b.dep + 1
 | .arr _ t=>t.dep + 1
 | _=>0
theorem add_lit (r o i:Nat):(⟨r,o,none⟩:Addr).add i = ⟨r,o + i,none⟩:=by
 unfold Addr.add; split <;> simp_all
theorem run_part {P:Program} {t:Ty} {id:TypeId} (h:TOk P t id) (w:World) (cs ds:List Value) (o:Nat) (hd:(cs.drop o).take t.sz = ds) (hl:ds.length = t.sz) :
  (part id cs.toArray o).run P w = .ok (mkV t.isAgg ds) w:=by
 unfold part
 rw [Sem.run_bind,h.run_agg,Result.andThen_ok]
 cases hb:t.isAgg with
 | true =>
  simp only [if_true,Sem.run_bind,h.run_size,Result.andThen_ok,Sem.run_pure,mkV]
  congr 3
  rw [← hd]
  simp [List.extract_toArray,List.extract_eq_take_drop]
 | false =>
  have hs:t.sz = 1:=by cases t <;> first | rfl | cases hb
  rw [hs] at hd hl
  match ds,hl with
  | [v],_ =>
   have:cs[o]? = some v:=by
    have:=congrArg (fun l:List Value=>l[0]?) hd
    simpa using this
   simp [this,mkV]
theorem eqb_arr {X:Type} (f:X→X→Bool):∀ (n:Nat) (x y:Arr X n),Arr.eqb f n x y = true ↔ ∀ i d,i < n→f (Arr.sel d n x i) (Arr.sel d n y i) = true
 | 0,_,_=>by simp [Arr.eqb]
 | n + 1,x,y=>by
  simp only [Arr.eqb,Bool.and_eq_true,eqb_arr f n]
  refine ⟨fun h i d hi=>?_,fun h=>⟨h 0 x.1 (by omega),fun i d hi=>h (i + 1) d (by omega)⟩⟩
  cases i with
  | zero=>exact h.1
  | succ i=>exact h.2 i d (by omega)
theorem run_equal {P:Program} {w w0:World} {G:Nat→Prop}:∀ (t:Ty),
  (∀ (d:Nat) (id:TypeId) (x y:t.D) (cs cs':List Value),t.dep ≤ d→TOk P t id→eqtB P t id = true→Enc w G t x cs→Enc w G t y cs' →
   (Op.equalIn (d + 1) id (mkV t.isAgg cs) (mkV t.isAgg cs')).run P w0 = .ok (t.eqb x y) w0) ∧
  (∀ (d:Nat) (r:List Field) (o:Nat) (x y:t.D) (cs cs':List Value),t.dep ≤ d→FOk P t r o→eqfB P t r = true→Enc w G t x (cs.drop o)→Enc w G t y (cs'.drop o) →
   (Op.eqFields d cs.toArray cs'.toArray r).run P w0 = .ok (t.eqb x y) w0):=by
 intro t
 induction t with
 | int k =>
  refine ⟨fun d id x y cs cs' _ h _ hx hy=>?_,fun d r o x y cs cs' _ h _ hx hy=>by cases r <;> simp [FOk] at h⟩
  simp only [Enc] at hx hy
  subst hx; subst hy
  obtain ⟨_,hu⟩:=h
  simp only [Ty.isAgg,mkV,List.headD_cons]
  rw [run_equalIn_int w0 d id k k _ _ hu]
  congr 1
 | bool =>
  refine ⟨fun d id x y cs cs' _ h _ hx hy=>?_,fun d r o x y cs cs' _ h _ hx hy=>by cases r <;> simp [FOk] at h⟩
  simp only [Enc] at hx hy
  subst hx; subst hy
  obtain ⟨_,hu⟩:=h
  exact run_equalIn_bool' w0 d id x y hu
 | nil =>
  refine ⟨fun d id x y cs cs' _ h he hx hy=>?_,fun d r o x y cs cs' _ h _ hx hy=>?_⟩
  ·
   simp only [Enc] at hx hy
   subst hx; subst hy
   obtain ⟨_,hu⟩:=h
   simp only [eqtB,Bool.not_eq_true'] at he
   have hf:P.underlying id = some (.struct (P.fieldsOf id)):=by simp [Program.fieldsOf,hu]
   simp only [Ty.isAgg,mkV]
   rw [run_equalIn_struct w0 d id _ _ hf he]
   have:P.fieldsOf id = #[]:=by simp [Program.fieldsOf,hu]
   rw [this]; rfl
  ·
   cases r with
   | nil=>rfl
   | cons f r=>simp [FOk] at h
 | cons a b iha ihb =>
  have fields:∀ (d:Nat) (r:List Field) (o:Nat) (x y:(Ty.cons a b).D) (cs cs':List Value),(Ty.cons a b).dep ≤ d→FOk P (.cons a b) r o→eqfB P (.cons a b) r = true→Enc w G (.cons a b) x (cs.drop o)→Enc w G (.cons a b) y (cs'.drop o) →
    (Op.eqFields d cs.toArray cs'.toArray r).run P w0 = .ok ((Ty.cons a b).eqb x y) w0:=by
   intro d r o x y cs cs' hd h he hx hy
   cases r with
   | nil=>simp [FOk] at h
   | cons f r =>
    simp only [FOk] at h
    obtain ⟨ho,ha,hb⟩:=h
    simp only [eqfB,Bool.and_eq_true] at he
    obtain ⟨hn,hea,heb⟩:=he
    obtain ⟨c1,c2,e,hx1,hx2⟩:=hx
    obtain ⟨d1,d2,e',hy1,hy2⟩:=hy
    have l1:=Enc_len _ _ _ hx1
    have l2:=Enc_len _ _ _ hy1
    have hda:a.dep + 1 ≤ d:=by simp only [Ty.dep] at hd; have:=Nat.le_max_left a.dep b.dep; simp only [Nat.max_def] at this hd ⊢; omega
    have hdb:b.dep ≤ d:=by simp only [Ty.dep] at hd; have:=Nat.le_max_right a.dep b.dep; simp only [Nat.max_def] at this hd ⊢; omega
    obtain ⟨d,rfl⟩:∃ m,d = m + 1:=⟨d - 1,by omega⟩
    have p1:=run_part ha w0 cs c1 o (by rw [e,List.take_append_of_le_length (by omega),List.take_of_length_le (by omega)]) l1
    have p2:=run_part ha w0 cs' d1 o (by rw [e',List.take_append_of_le_length (by omega),List.take_of_length_le (by omega)]) l2
    have q:=(iha).1 d f.type x.1 y.1 c1 d1 (by omega) ha hea hx1 hy1
    have hr:=(ihb).2 (d + 1) r (o + a.sz) x.2 y.2 cs cs' hdb hb heb
     (by rw [← List.drop_drop,e,← l1,List.drop_append_of_le_length (Nat.le_refl _),List.drop_of_length_le (Nat.le_refl _)]; exact hx2)
     (by rw [← List.drop_drop,e',← l2,List.drop_append_of_le_length (Nat.le_refl _),List.drop_of_length_le (Nat.le_refl _)]; exact hy2)
    rw [← ho] at p1 p2
    unfold Op.eqFields
    rw [if_pos (by simpa using hn)]
    simp only [Sem.run_bind,p1,p2,q,Result.andThen_ok,Sem.run_ite]
    simp only [Ty.eqb]
    cases hab:a.eqb x.1 y.1 with
    | false=>simp
    | true=>simpa [hab] using hr
  refine ⟨fun d id x y cs cs' hd h he hx hy=>?_,fields⟩
  obtain ⟨_,fs,f,r,hu,hfs,ho,ha,hb⟩:=h
  simp only [eqtB,Bool.and_eq_true,Bool.not_eq_true'] at he
  obtain ⟨hs,he⟩:=he
  rw [hu] at he
  simp only [hfs,Bool.and_eq_true] at he
  have hf:P.underlying id = some (.struct (P.fieldsOf id)):=by simp [Program.fieldsOf,hu]
  have hff:P.fieldsOf id = fs:=by simp [Program.fieldsOf,hu]
  simp only [Ty.isAgg,mkV]
  rw [run_equalIn_struct w0 d id _ _ hf hs,hff,hfs]
  exact fields d (f :: r) 0 x y cs cs' hd ⟨ho,ha,by simpa using hb⟩ (by simp [eqfB,he.1,he.2.1,he.2.2]) (by simpa using hx) (by simpa using hy)
 | arr n t ih =>
  refine ⟨fun d id x y cs cs' hd h he hx hy=>?_,fun d r o x y cs cs' _ h _ hx hy=>by cases r <;> simp [FOk] at h⟩
  obtain ⟨_,e,hu,he'⟩:=h
  simp only [eqtB,hu] at he
  obtain ⟨de,hue,_⟩:=he'.und
  obtain ⟨i,hi,hsz⟩:=info_of_und hue
  simp only [Ty.dep] at hd
  obtain ⟨d,rfl⟩:∃ m,d = m + 1:=⟨d - 1,by omega⟩
  simp only [Ty.isAgg,mkV]
  rw [run_equalIn_array w0 (d + 1) cs.toArray cs'.toArray hu hi,he'.size]
  have key:∀ (m:Nat) (is:List Nat),(∀ i ∈ is,i < n)→(Op.eqItems (d + 1) e t.sz cs.toArray cs'.toArray is).run P w0 = .ok (is.all fun i=>t.eqb (Arr.sel t.zero n x i) (Arr.sel t.zero n y i)) w0:=by
   intro m is
   induction is with
   | nil=>intro _; rfl
   | cons j is ihj =>
    intro hj
    have hjn:=hj j (by simp)
    have s1:=EncArr_sel (fun x cs=>Enc_len t x cs) t.zero n x cs j hjn hx
    have s2:=EncArr_sel (fun x cs=>Enc_len t x cs) t.zero n y cs' j hjn hy
    have p1:=run_part he' w0 cs _ (j * t.sz) rfl (Enc_len _ _ _ s1)
    have p2:=run_part he' w0 cs' _ (j * t.sz) rfl (Enc_len _ _ _ s2)
    have q:=ih.1 d e _ _ _ _ (by omega) he' he s1 s2
    unfold Op.eqItems
    simp only [Sem.run_bind,p1,p2,q,Result.andThen_ok,Sem.run_ite,List.all_cons]
    cases hab:t.eqb (Arr.sel t.zero n x j) (Arr.sel t.zero n y j) with
    | false=>simp
    | true=>simpa using ihj (fun i hi=>hj i (by simp [hi]))
  rw [key 0 (List.range n) (fun i hi=>List.mem_range.1 hi)]
  congr 1
  rw [Bool.eq_iff_iff]
  simp only [Ty.eqb,List.all_eq_true,List.mem_range]
  constructor
  ·
   intro h
   refine (eqb_arr t.eqb n x y).2 fun i dd hi=>?_
   have:=h i hi
   have sel_any:∀ (n:Nat) (x:Arr t.D n) (i:Nat) (a b:t.D),i < n→Arr.sel a n x i = Arr.sel b n x i:=by
    intro n
    induction n with
    | zero=>intro x i a b h; omega
    | succ n ihn=>intro x i a b h; cases i with
     | zero=>rfl
     | succ i=>exact ihn x.2 i a b (by omega)
   rw [sel_any n x i dd t.zero hi,sel_any n y i dd t.zero hi]
   exact this
  ·
   intro h i hi
   exact (eqb_arr t.eqb n x y).1 h i t.zero hi
 | _ =>
  refine ⟨fun d id x y cs cs' _ h he hx hy=>by simp [eqtB] at he,fun d r o x y cs cs' _ h _ hx hy=>by cases r <;> simp [FOk] at h⟩
end Sym

/- The laws of single operations, first part: moves, numbers, loads, stores, addresses. -/
namespace Sym
open Go
section
variable {P:Program} {base:World} {G0 own0:Nat→Prop} {o:Oper} {a:Act} {c:Cx}
theorem run_loadVar {t:Ty} {id:TypeId} (h:TOk P t id) (w:World) (r off:Nat) (ds:List Value) (hl:ds.length = t.sz) (hc:cellsAt w r off ds) :
  (loadVar id ⟨r,off,none⟩).run P w = .ok (mkV t.isAgg ds) w:=by
 unfold loadVar
 rw [Sem.run_bind,h.run_agg,Result.andThen_ok]
 cases hb:t.isAgg with
 | true =>
  have:=run_loadCells_list (P:=P) w ⟨r,off,none⟩ ds (fun j v hj=>by rw [add_lit]; exact hc j v hj)
  simp only [if_true,Sem.run_bind,h.run_size,Result.andThen_ok,Sem.run_pure,mkV]
  rw [← hl,this]
  rfl
 | false =>
  have hs:t.sz = 1:=by cases t <;> first | rfl | cases hb
  rw [hs] at hl
  match ds,hl with
  | [v],_ =>
   have:=hc 0 v rfl
   rw [Nat.add_zero] at this
   simp [this,mkV]
theorem run_storeVar {t:Ty} {id:TypeId} (h:TOk P t id) (w:World) (r off:Nat) (e:TypeId) (cs us:List Value) (v:Value) (hg:w.heap[r]? = some (.cells cs.toArray e (0,0))) (hv:v.cells = us.toArray) (hl:us.length = t.sz)
  (h1:∀ v ∈ us,v.oneCell' = true) (hfit:off + us.length ≤ cs.length) :
  (storeVar id ⟨r,off,none⟩ v).run P w = .ok () (w.setRow r (splice cs off us).toArray):=by
 unfold storeVar
 have:=run_storeCells_at P r off e us 0 cs.toArray w hg (by simpa using hfit) h1
 simp only [Nat.add_zero] at this
 simp only [Sem.run_bind,h.run_size,Result.andThen_ok,hv,List.size_toArray,hl,ne_eq,not_true,if_false]
 exact this
theorem cellsAt_of {w:World} {r off n:Nat} {cs:List Value} {e:TypeId} {fr:Nat × Nat} (hg:w.heap[r]? = some (.cells cs.toArray e fr)):cellsAt w r off ((cs.drop off).take n):=by
 intro j d hj
 rw [List.getElem?_take] at hj
 split at hj
 ·
  rw [List.getElem?_drop] at hj
  simp only [World.cell?,hg,Option.isSome_none,Bool.false_eq_true,if_false]
  simpa using hj
 ·
  cases hj
theorem vok_cells {u:PV} {cs:List Value} (h:a1H c u cs) {t:Ty} (hf:fits u t = true):VOk c u (mkV t.isAgg cs):=by
 have:=isAgg_fits hf
 cases u <;> first | exact h.elim | exact ⟨_,h,by rw [this]⟩
theorem tyAt_off:∀ (t:Ty) (p:List Step) (o:Nat) (u:Ty),offTy t p = some (o,u)→tyAt t p = some u:=by
 intro t
 induction t with
 | cons a b iha ihb =>
  intro p o u h
  match p,h with
  | [],h=>simp only [offTy,Option.some.injEq,Prod.mk.injEq] at h; rw [← h.2]; rfl
  | .fld 0 :: p,h=>exact iha p o u h
  | .fld (j + 1) :: p,h =>
   simp only [offTy] at h
   split at h
   ·
    rename_i o' t' he
    simp only [Option.some.injEq,Prod.mk.injEq] at h
    rw [← h.2]
    exact ihb _ _ _ he
   ·
    cases h
  | .idx i :: p,h=>simp [offTy] at h
 | arr n t ih =>
  intro p o u h
  match p,h with
  | [],h=>simp only [offTy,Option.some.injEq,Prod.mk.injEq] at h; rw [← h.2]; rfl
  | .fld 0 :: p,h=>simp [offTy] at h
  | .fld (j + 1) :: p,h=>simp [offTy] at h
  | .idx i :: p,h =>
   simp only [offTy] at h
   split at h
   ·
    split at h
    ·
     rename_i o' t' he
     simp only [Option.some.injEq,Prod.mk.injEq] at h
     rw [← h.2]
     exact ih _ _ _ he
    ·
     cases h
   ·
    cases h
 | _ =>
  intro p o u h
  match p,h with
  | [],h=>simp only [offTy,Option.some.injEq,Prod.mk.injEq] at h; rw [← h.2]; rfl
  | .fld 0 :: p,h=>simp [offTy] at h
  | .fld (j + 1) :: p,h=>simp [offTy] at h
  | .idx i :: p,h=>simp [offTy] at h
theorem tyIs_off {s t u:Ty} {p:List Step} {o:Nat} (h:tyIs s p t = true) (ho:offTy s p = some (o,u)):u = t:=by
 unfold tyIs at h
 rw [tyAt_off s p o u ho] at h
 exact Ty.beq_eq h
theorem exec_load {id:TypeId} {x:Operand} (ho:o.op = .load id x):execOp a.eval o = (do pure (.value (← Instr.loadAt id (a.eval x)))):=by
 simp only [execOp,ho]
theorem v_ptr {b:Nat} {p:List Step} {v:Value} (h:VOk c (.ptr b p) v):PtrOk c b p v:=by
 obtain ⟨cs,⟨u,rfl,_,h1⟩,rfl⟩:=h; exact h1
theorem law_load_box (hM:Mem base G0 own0 c) {id:TypeId} {x:Operand} (ho:o.op = .load id x) {t s:Ty} (ht:TOk P t id) {b:Nat} {p:List Step} {v u:PV} (hx:VOk c (.ptr b p) (a.eval x))
  (hb:a0K c.H b = .box s v) (hti:tyIs s p t = true) (hg:getPath v p = some u):OpRes P base G0 own0 o a c u []:=by
 have hp:=v_ptr hx
 have hB:=hM.blk b
 unfold PtrOk at hp
 unfold BlkOk at hB
 simp only [hb] at hp hB
 obtain ⟨r,off,u',hρ,hoff,hv⟩:=hp
 obtain ⟨r',cs,e,hρ',hh,hc,hfs⟩:=hB
 rw [hρ'] at hρ
 simp only [Value.pointer.injEq,Option.some.injEq,Addr.mk.injEq] at hρ
 obtain ⟨rfl,_,_⟩:=hρ
 have:=tyIs_off hti hoff
 subst this
 obtain ⟨hf,hcu⟩:=getPath_ok v s cs p off u' u hc hfs hoff hg
 have hl:=cells_len _ _ _ hcu hf
 refine a1L hM (v:=mkV u'.isAgg ((cs.drop off).take u'.sz)) ?_ ?_
 ·
  rw [exec_load ho,hv]
  have:=run_loadVar ht c.w r' off _ hl (cellsAt_of hh)
  simp [Instr.loadAt,Instr.sureAddr,this]
 ·
  exact vok_cells hcu hf
theorem cells_vok {u:PV} {v:Value} (h:VOk c u v) {t:Ty} (hf:fits u t = true):∃ cs,a1H c u cs∧v = mkV t.isAgg cs∧cs.length = t.sz:=by
 have:=isAgg_fits hf
 cases u with
 | tup a=>cases t <;> simp [fits] at hf
 | undef=>cases t <;> simp [fits] at hf
 | _=>obtain ⟨cs,h1,h2⟩:=h; exact ⟨cs,h1,by rw [h2,this],cells_len _ _ _ h1 hf⟩
theorem law_load_bptr (hM:Mem base G0 own0 c) {id:TypeId} {x:Operand} (ho:o.op = .load id x) {t:Ty} (ht:TOk P t id) {y:t.D} (hx:VOk c (.bptr t y) (a.eval x)):OpRes P base G0 own0 o a c (.val t y) []:=by
 obtain ⟨cs,⟨ad,ds,rfl,hs,hG,he,hc⟩,hv⟩:=hx
 obtain ⟨r,off,spot⟩:=ad
 simp only at hs hc
 subst hs
 refine a1L hM (v:=mkV t.isAgg ds) ?_ ⟨ds,he,rfl⟩
 rw [exec_load ho,hv]
 have:=run_loadVar ht c.w r off ds (Enc_len _ _ _ he) hc
 simp [Instr.loadAt,Instr.sureAddr,this,mkV,isAggPV]
theorem rdL_get {X:Type} (d:X):∀ (l:List X) (i:Nat),i < l.length→l[i]? = some (rdL d l i)
 | [],i,h=>by simp at h
 | x :: l,0,_=>rfl
 | x :: l,i + 1,h=>by simp only [List.length_cons] at h; simp only [List.getElem?_cons_succ,rdL]; exact rdL_get d l i (by omega)
theorem law_load_row (hM:Mem base G0 own0 c) {id:TypeId} {x:Operand} (ho:o.op = .load id x) {t s:Ty} (ht:TOk P t id) {b i:Nat} {p:List Step} {l:List s.D} {u:PV} (hx:VOk c (.ptr b (.idx i :: p)) (a.eval x))
  (hb:a0K c.H b = .row s l) (hti:tyIs s p t = true) (hg:getVal s (rdL s.zero l i) p = some u):OpRes P base G0 own0 o a c u []:=by
 have hp:=v_ptr hx
 have hB:=hM.blk b
 unfold PtrOk at hp
 unfold BlkOk at hB
 simp only [hb] at hp hB
 obtain ⟨r,cap,i',p',off,u',hρ,hpe,hi,hoff,hv⟩:=hp
 simp only [List.cons.injEq,Step.idx.injEq] at hpe
 obtain ⟨rfl,rfl⟩:=hpe
 obtain ⟨hlim,e,xs,hown,hx'⟩:=hB
 rcases own_cells hown with ⟨e1,_,_⟩ | ⟨g,cap',cur,e1,e2,_,_,_,_,e7⟩
 ·
  rw [e1] at hρ; cases hρ
 rw [e1] at hρ
 simp only [Value.slice.injEq,Option.some.injEq,Addr.mk.injEq] at hρ
 obtain ⟨⟨rfl,_,_⟩,_,_⟩:=hρ
 obtain ⟨ds,hd,hcd⟩:=rowAt_of_EncL (off:=0) hx' e2 e7 i _ (rdL_get s.zero l i hi)
 obtain ⟨y,rfl,hy⟩:=enc_getVal s _ ds p off u' u hd hoff hg
 have:=tyIs_off hti hoff
 subst this
 refine a1L hM (v:=mkV u'.isAgg ((ds.drop off).take u'.sz)) ?_ ⟨_,hy,rfl⟩
 rw [exec_load ho,hv]
 have hc':cellsAt c.w g (i * s.sz + off) ((ds.drop off).take u'.sz):=by
  intro j d hj
  rw [List.getElem?_take] at hj
  split at hj
  ·
   rw [List.getElem?_drop] at hj
   have:=hcd _ _ hj
   rw [Nat.zero_add,← Nat.add_assoc] at this
   exact this
  ·
   cases hj
 have:=run_loadVar ht c.w g _ _ (Enc_len _ _ _ hy) hc'
 simp [Instr.loadAt,Instr.sureAddr,this]
end
end Sym

/- The laws of single operations, second part: stores, new variables, addresses, parts. -/
namespace Sym
open Go
section
variable {P:Program} {base:World} {G0 own0:Nat→Prop} {o:Oper} {a:Act} {c:Cx}
theorem law_assign (hM:Mem base G0 own0 c) {x:Operand} (ho:o.op = .move x ∨ o.op = .assign x) {pv:PV} (hx:VOk c pv (a.eval x)):OpRes P base G0 own0 o a c pv []:=by
 refine a1L hM (v:=a.eval x) ?_ hx
 rcases ho with ho | ho <;> simp [execOp,ho]
theorem law_assign_nil (hM:Mem base G0 own0 c) {nb:Nat} (hn:a0K c.H nb = .unborn) (t:Ty) (ho:o.op = .assign (.const (.slice none 0 0))):OpRes P base G0 own0 o a c (.whole nb) [(nb,.row t [])]:=by
 obtain ⟨c',h1,h2,h3,h4,h5⟩:=mem_row hM hn (w':=c.w) (hd:=.slice none 0 0) (t:=t) (l:=[]) (e:=0) (xs:=[]) none ⟨rfl,rfl,rfl,Nat.le_refl _,fun _ _ _=>rfl⟩
  ⟨by simp,.inl ⟨rfl,rfl⟩⟩ rfl (Nat.zero_le _) none (fun i h=>by cases h) (fun r h=>by cases h) (fun r h=>by cases h)
 refine opres_value (c':=c') (v:=.slice none 0 0) ?_ h3 h4 (by simpa [oldDead] using h2) h5
 rw [h1]
 simp [execOp,ho,Act.eval]
theorem law_pick_bool (hM:Mem base G0 own0 c) {x y z:Operand} (ho:o.op = .pick x y z) {p q r:Bool} (hx:VOk c (.val .bool p) (a.eval x)) (hy:VOk c (.val .bool q) (a.eval y)) (hz:VOk c (.val .bool r) (a.eval z)) :
  OpRes P base G0 own0 o a c (.val .bool (bif p then q else r)) []:=by
 refine a1L hM (v:=.bool (bif p then q else r)) ?_ (ok_bool _)
 have hx:=v_bool hx
 have hy:=v_bool hy
 have hz:=v_bool hz
 cases p <;> simp [execOp,ho,hx,hy,hz,asBool]
theorem law_pick (hM:Mem base G0 own0 c) {x y z:Operand} (ho:o.op = .pick x y z) {p:Bool} {u:PV} (hx:VOk c (.val .bool p) (a.eval x)) (hy:p = true→VOk c u (a.eval y)) (hz:p = false→VOk c u (a.eval z)) :
  OpRes P base G0 own0 o a c u []:=by
 have hx:=v_bool hx
 cases p with
 | true=>exact a1L hM (v:=a.eval y) (by simp [execOp,ho,hx,asBool]) (hy rfl)
 | false=>exact a1L hM (v:=a.eval z) (by simp [execOp,ho,hx,asBool]) (hz rfl)
theorem law_alloc (hM:Mem base G0 own0 c) {id:TypeId} (ho:o.op = .alloc id) {t:Ty} (ht:TI P id t) (hz:t.zOk = true) (hq:t ≠ .opq) {nb:Nat} (hn:a0K c.H nb = .unborn) :
  OpRes P base G0 own0 o a c (.ptr nb []) [(nb,.box t (zeroPV t))]:=by
 obtain ⟨c',h1,h2,h3,h4,h5⟩:=mem_box hM hn id (zeroPV_ok (c:=c) t hz).1 (zeroPV_ok (c:=c) t hz).2
 refine opres_value (c':=c') ?_ h3 h4 h2 h5
 rw [h1]
 have:=cells_mkV (zCells_len t) (zCells_one t)
 have hr:=ht.run_zero hq c.w
 simp [execOp,ho,Instr.alloc,hr,newVar,newRow,mkZ,this]
theorem law_box (hM:Mem base G0 own0 c) {id:TypeId} {x:Operand} (ho:o.op = .box id x) {t:Ty} {v:PV} (hx:VOk c v (a.eval x)) (hf:fits v t = true) {nb:Nat} (hn:a0K c.H nb = .unborn) :
  OpRes P base G0 own0 o a c (.ptr nb []) [(nb,.box t v)]:=by
 obtain ⟨cs,hc,hv,hl⟩:=cells_vok hx hf
 obtain ⟨c',h1,h2,h3,h4,h5⟩:=mem_box hM hn id hc hf
 refine opres_value (c':=c') ?_ h3 h4 h2 h5
 rw [h1]
 have:=cells_mkV hl (cells_one v cs hc)
 simp [execOp,ho,Instr.box,newVar,newRow,hv,this]
theorem exec_store {id:TypeId} {x y:Operand} (ho:o.op = .store id x y):execOp a.eval o = (do Instr.storeAt id (a.eval x) (a.eval y); pure .skip):=by
 simp only [execOp,ho]
theorem law_store_box (hM:Mem base G0 own0 c) {id:TypeId} {x y:Operand} (ho:o.op = .store id x y) {t s:Ty} (ht:TOk P t id) {b:Nat} {p:List Step} {v new:PV} {u:PV}
  (hx:VOk c (.ptr b p) (a.eval x)) (hy:VOk c u (a.eval y)) (hfu:fits u t = true) (hb:a0K c.H b = .box s v) (hti:tyIs s p t = true) (hs:setPath u v p = some new) :
  OpRes P base G0 own0 o a c .undef [(b,.box s new)]:=by
 have hp:=v_ptr hx
 have hB:=hM.blk b
 unfold PtrOk at hp
 unfold BlkOk at hB
 simp only [hb] at hp hB
 obtain ⟨r,off,u',hρ,hoff,hv⟩:=hp
 obtain ⟨r',cs,e,hρ',hh,hc,hfs⟩:=hB
 have hρ0:=hρ'
 rw [hρ'] at hρ
 simp only [Value.pointer.injEq,Option.some.injEq,Addr.mk.injEq] at hρ
 obtain ⟨rfl,_,_⟩:=hρ
 obtain ⟨us,hcu,hvu,hlu⟩:=cells_vok hy hfu
 have:=tyIs_off hti hoff
 subst this
 have hle:=offTy_le s p off u' hoff
 have hls:=cells_len _ _ _ hc hfs
 have key:fits new s = true∧a1H c new (splice cs off us):=setPath_ok u us hcu v s cs p off u' new hc hfs hoff hfu hs
 have hone:=cells_one u us hcu
 obtain ⟨c',h1,h2,h3,h4⟩:=mem_store hM hb hρ0 hh key.2 key.1
 refine opres_skip (c':=c') ?_ h3 h4 h2
 rw [h1,exec_store ho,hv,hvu]
 have:=run_storeVar ht c.w r' off e cs us _ hh (cells_mkV hlu hone) hlu hone (by omega)
 simp [Instr.storeAt,Instr.sureAddr,this]
end
end Sym

/- The laws of single operations, third part: rows written, addresses, parts. -/
namespace Sym
open Go
section
variable {P:Program} {base:World} {G0 own0:Nat→Prop} {o:Oper} {a:Act} {c:Cx}
theorem toVal_live (H:List Blk):∀ (t:Ty) (v:PV) (x:t.D) (lent:List Nat),toVal H t v = some (x,lent)→∀ b ∈ lent,live (a0K H b) = true:=by
 have hval:∀ (t u:Ty) (y:u.D) (x:t.D) (lent:List Nat),(match Ty.cast u t y with | some y=>some (y,([]:List Nat)) | none=>none) = some (x,lent)→∀ b ∈ lent,live (a0K H b) = true:=by
  intro t u y x lent hv
  split at hv
  ·
   simp only [Option.some.injEq,Prod.mk.injEq] at hv
   obtain ⟨_,rfl⟩:=hv
   intro b hb; simp at hb
  ·
   cases hv
 intro t
 induction t with
 | cons a b iha ihb =>
  intro v x lent hv
  cases v with
  | val u y=>exact hval _ u y x lent hv
  | pair p q =>
   simp only [toVal] at hv
   split at hv
   ·
    rename_i x1 x2 e1 e2
    have hv:=Option.some.inj hv
    obtain ⟨rfl,rfl⟩:=Prod.mk.inj hv
    intro b hb
    simp only [List.mem_append] at hb
    exact hb.elim (iha p x1.1 x1.2 e1 b) (ihb q x2.1 x2.2 e2 b)
   ·
    cases hv
  | _=>simp [toVal] at hv
 | sl t ih =>
  intro v x lent hv
  cases v with
  | val u y=>exact hval _ u y x lent hv
  | nils =>
   simp only [toVal] at hv
   have hv:=Option.some.inj hv
   obtain ⟨_,rfl⟩:=Prod.mk.inj hv
   intro b hb; simp at hb
  | whole b =>
   simp only [toVal] at hv
   split at hv
   ·
    rename_i h1
    split at hv
    ·
     have hv:=Option.some.inj hv
     obtain ⟨_,rfl⟩:=Prod.mk.inj hv
     intro b' hb; simp only [List.mem_singleton] at hb; subst hb; rw [h1]; rfl
    ·
     cases hv
   ·
    cases hv
  | row b lo n =>
   simp only [toVal] at hv
   split at hv
   ·
    rename_i h1
    split at hv
    ·
     have hv:=Option.some.inj hv
     obtain ⟨_,rfl⟩:=Prod.mk.inj hv
     intro b' hb; simp only [List.mem_singleton] at hb; subst hb; rw [h1]; rfl
    ·
     cases hv
   ·
    cases hv
  | aview b p lo n =>
   simp only [toVal] at hv
   split at hv
   ·
    rename_i h1
    split at hv
    ·
     split at hv
     ·
      have hv:=Option.some.inj hv
      obtain ⟨_,rfl⟩:=Prod.mk.inj hv
      intro b' hb; simp only [List.mem_singleton] at hb; subst hb; rw [h1]; rfl
     ·
      cases hv
    ·
     cases hv
   ·
    cases hv
  | _=>simp [toVal] at hv
 | _ =>
  intro v x lent hv
  cases v with
  | val u y=>exact hval _ u y x lent hv
  | _=>first
   | (simp [toVal] at hv; done)
   | (simp only [toVal] at hv; obtain ⟨_,rfl⟩:=Prod.mk.inj (Option.some.inj hv); intro b hb; cases hb)
theorem splice_splice (cs us:List Value) (k off s:Nat) (h1:k + s ≤ cs.length) (h2:off + us.length ≤ s):splice cs k (splice ((cs.drop k).take s) off us) = splice cs (k + off) us:=by
 have l3:(splice ((cs.drop k).take s) off us).length = s:=by rw [splice_len] <;> simp <;> omega
 simp only [splice] at l3 ⊢
 rw [l3]
 rw [show cs.take (k + off) = cs.take k ++ (cs.drop k).take off from List.take_add ..,List.take_take,Nat.min_eq_left (by omega),List.drop_take,List.drop_drop]
 have:(cs.drop (k + (off + us.length))).take (s - (off + us.length)) ++ cs.drop (k + s) = cs.drop (k + off + us.length):=by
  rw [show cs.drop (k + s) = (cs.drop (k + (off + us.length))).drop (s - (off + us.length)) by rw [List.drop_drop]; congr 1; omega,List.take_append_drop]
  congr 1; omega
 rw [← this]
 simp
theorem EncL_set {X:Type} {E:X→List Value→Prop} {s:Nat} (hl:∀ x cs,E x cs→cs.length = s) (z:X) (zs:List Value) (hz:E z zs):∀ (l:List X) (xs:List Value) (i:Nat),i < l.length→EncL E l xs →
  EncL E (setAt l i z) (splice xs (i * s) zs)
 | [],_,i,hi,_=>by simp at hi
 | x :: l,_,0,_,h=>by
  obtain ⟨c1,c2,rfl,h1,h2⟩:=h
  have l1:=hl _ _ h1
  have l2:=hl _ _ hz
  rw [Nat.zero_mul,splice_left _ _ _ _ (by omega)]
  refine ⟨zs,c2,?_,hz,h2⟩
  congr 1
  simp [splice,List.drop_of_length_le (show c1.length ≤ zs.length by omega)]
 | x :: l,_,i + 1,hi,h=>by
  obtain ⟨c1,c2,rfl,h1,h2⟩:=h
  have l1:=hl _ _ h1
  rw [show (i + 1) * s = c1.length + i * s by rw [Nat.succ_mul]; omega,splice_right]
  exact ⟨c1,_,rfl,h1,EncL_set hl z zs hz l c2 i (by simpa using hi) h2⟩
theorem EncL_seg {X:Type} {E:X→List Value→Prop} {s:Nat} (hl:∀ x cs,E x cs→cs.length = s) (d:X):∀ (l:List X) (xs:List Value) (i:Nat),i < l.length→EncL E l xs→E (rdL d l i) ((xs.drop (i * s)).take s)
 | [],_,i,hi,_=>by simp at hi
 | x :: l,_,0,_,h=>by
  obtain ⟨c1,c2,rfl,h1,h2⟩:=h
  have l1:=hl _ _ h1
  simp only [rdL,Nat.zero_mul,List.drop_zero]
  rw [List.take_append_of_le_length (by omega),List.take_of_length_le (by omega)]
  exact h1
 | x :: l,_,i + 1,hi,h=>by
  obtain ⟨c1,c2,rfl,h1,h2⟩:=h
  have l1:=hl _ _ h1
  have:=EncL_seg hl d l c2 i (by simpa using hi) h2
  simp only [rdL]
  rw [show (i + 1) * s = c1.length + i * s by rw [Nat.succ_mul]; omega,take_drop_append_right]
  exact this
theorem setAt_len {X:Type}:∀ (l:List X) (i:Nat) (x:X),(setAt l i x).length = l.length
 | [],_,_=>rfl
 | _ :: _,0,_=>rfl
 | y :: l,i + 1,x=>by simp [setAt,setAt_len l i x]
theorem mem_rowstore {c:Cx} (hM:Mem base G0 own0 c) {b g cap:Nat} {s:Ty} {l l':List s.D} {xs':List Value} {cur cur':Array Value} {e:TypeId} (hb:a0K c.H b = .row s l)
  (hρ:c.ρ b = .slice (some ⟨g,0,none⟩) l.length cap) (hg:c.w.heap[g]? = some (.cells cur e (0,0))) (hlen:l'.length = l.length) (hn:l.length ≤ cap) (hm:cap ≤ maxLen) (hs:cur'.size = cap * s.sz) (ht:cur'.toList.take (l.length * s.sz) = xs')
  (hx:EncL (Enc c.w c.G s) l' xs') (hlim:l.length ≤ LIM) :
  ∃ c',c'.w = c.w.setRow g cur'∧c'.H = putBlks c.H [(b,.row s l')]∧Ext c c'∧Mem base G0 own0 c':=by
 have hT:Turn base G0 own0 c (Cx.next base G0 (c.w.setRow g cur') c.ρ (putBlk c.H b (.row s l'))) (fun i=>i = b):=by
  refine ⟨rfl,rfl,rfl,by simp [Cx.next],fun i hi=>rfl,fun i hi=>by simp [Cx.next,blkAt_put,hi],fun k hk h=>?_,fun i hi=>?_,fun i k hi hl he=>?_,fun i i' k hi hi' _ _ _ _=>hi.trans hi'.symm,rfl⟩
  ·
   exact setRow_other _ _ _ _ fun e=>h b rfl (by simp [hb,live]) (by simp [hρ,blkOf,e])
  ·
   subst hi; simp [BlkLe,hb,Cx.next,blkAt_put,hlen]
  ·
   subst hi; exact .inr ⟨i,rfl,by simp [hb,live],he⟩
 have hE:=hT.ext hM
 refine ⟨_,rfl,rfl,hE,hT.mem hM fun i hi=>?_⟩
 subst hi
 unfold BlkOk
 simp only [Cx.next,blkAt_put,if_true]
 have hl':=EncL_len (fun x cs=>Enc_len s x cs) l' xs' hx
 refine ⟨by omega,e,xs',⟨hl',.inr ⟨g,cap,cur',by rw [hρ,hlen],Nat.zero_le _,setRow_heap _ _ _ _ _ _ hg,by omega,hm,hs,by rw [hlen]; exact ht⟩⟩,EncL_mono (fun x cs=>hE.enc) l' xs' hx⟩
theorem putBlks_app:∀ (δ δ':List (Nat × Blk)) (H:List Blk),putBlks H (δ ++ δ') = putBlks (putBlks H δ) δ'
 | [],_,_=>rfl
 | (i,b) :: δ,δ',H=>by simp [putBlks,putBlks_app δ δ']
theorem Ext.trans {c1 c2 c3:Cx} (h:Ext c1 c2) (h':Ext c2 c3):Ext c1 c3:=by
 refine ⟨fun r hr=>⟨(h'.G r (h.G r hr).1).1,(h'.G r (h.G r hr).1).2.trans (h.G r hr).2⟩,fun b=>?_⟩
 have h1:=h.blk b
 have h2:=h'.blk b
 unfold BlkLe at *
 cases e1:a0K c1.H b <;> cases e2:a0K c2.H b <;> cases e3:a0K c3.H b <;> simp_all
end
end Sym

/- The laws of single operations, fourth part: rows written, composite values. -/
namespace Sym
open Go
section
variable {P:Program} {base:World} {G0 own0:Nat→Prop} {o:Oper} {a:Act} {c:Cx}
theorem lend (hM:Mem base G0 own0 c) (lent:List Nat) (hl:∀ b ∈ lent,live (a0K c.H b) = true) :
  ∃ c1,c1.w = c.w∧c1.H = putBlks c.H (kill lent)∧c1.ρ = c.ρ∧Ext c c1∧Mem base G0 own0 c1∧(∀ b,b ∉ lent→a0K c1.H b = a0K c.H b) ∧
   ∀ (t:Ty) (x:t.D) (cs:List Value),Enc c.w (Glent c lent) t x cs→Enc c1.w c1.G t x cs:=by
 obtain ⟨c1,h1,h2,h3,h4,h5,h6,h7⟩:=mem_kill hM lent hl
 exact ⟨c1,h1,h2,h3,h4,h5,h7,fun t x cs he=>by rw [h1]; exact Enc_G h6 he⟩
theorem law_store_row (hM:Mem base G0 own0 c) {id:TypeId} {x y:Operand} (ho:o.op = .store id x y) {t s:Ty} (ht:TOk P t id) {b i:Nat} {p:List Step} {l:List s.D} {u:PV} {z:s.D} {yv:t.D} {lent:List Nat}
  (hx:VOk c (.ptr b (.idx i :: p)) (a.eval x)) (hy:VOk c u (a.eval y)) (hfu:fits u t = true) (hb:a0K c.H b = .row s l) (hti:tyIs s p t = true) (hv:toVal c.H t u = some (yv,lent)) (hnl:b ∉ lent)
  (hp:putVal t yv s (rdL s.zero l i) p = some z):OpRes P base G0 own0 o a c .undef (kill lent ++ [(b,.row s (setAt l i z))]):=by
 obtain ⟨us,hcu,hvu,hlu⟩:=cells_vok hy hfu
 have hone:=cells_one u us hcu
 have hen:=toVal_ok hM.blk t u us yv lent hcu hv
 obtain ⟨c1,h1,h2,h3,h4,h5,h6,h7⟩:=lend hM lent (toVal_live _ _ _ _ _ hv)
 have hen:=h7 _ _ _ hen
 have hx1:=v_ext h4 hx
 have hb1:a0K c1.H b = .row s l:=(h6 b hnl).trans hb
 have hp':=v_ptr hx1
 have hB:=h5.blk b
 unfold PtrOk at hp'
 unfold BlkOk at hB
 simp only [hb1] at hp' hB
 obtain ⟨r,cap,i',p',off,u',hρ,hpe,hi,hoff,hva⟩:=hp'
 simp only [List.cons.injEq,Step.idx.injEq] at hpe
 obtain ⟨rfl,rfl⟩:=hpe
 obtain ⟨hlim,e,xs,hown,hx'⟩:=hB
 rcases own_cells hown with ⟨e1,_,_⟩ | ⟨g,cap',cur,e1,e2,e3,e4,e5,e6,e7⟩
 ·
  rw [e1] at hρ; cases hρ
 have e1':=e1
 rw [e1] at hρ
 simp only [Value.slice.injEq,Option.some.injEq,Addr.mk.injEq] at hρ
 obtain ⟨⟨rfl,_,_⟩,_,_⟩:=hρ
 have:=tyIs_off hti hoff
 subst this
 have hseg:=EncL_seg (fun x cs=>Enc_len s x cs) s.zero l xs i hi hx'
 obtain ⟨_,hz⟩:=enc_putVal u' yv us hen s _ _ p off u' z hseg hoff hp
 have hle:=offTy_le s p off u' hoff
 have hxl:=EncL_len (fun x cs=>Enc_len s x cs) l xs hx'
 have him:(i + 1) * s.sz ≤ l.length * s.sz:=Nat.mul_le_mul_right _ hi
 rw [Nat.succ_mul] at him
 have hcl:l.length * s.sz ≤ cap' * s.sz:=Nat.mul_le_mul_right _ e3
 have hset:=EncL_set (fun x cs=>Enc_len s x cs) z _ hz l xs i hi hx'
 rw [splice_splice _ _ _ _ _ (by omega) (by omega)] at hset
 have hcur:cur.toList.length = cap' * s.sz:=by simpa using e5
 have htake:(splice cur.toList (i * s.sz + off) us).take (l.length * s.sz) = splice xs (i * s.sz + off) us:=by
  rw [← e6]
  have:=splice_left (cur.toList.take (l.length * s.sz)) (cur.toList.drop (l.length * s.sz)) us (i * s.sz + off) (by simp; omega)
  rw [List.take_append_drop] at this
  rw [this,List.take_append_of_le_length (by rw [splice_len] <;> simp <;> omega),List.take_of_length_le (by rw [splice_len] <;> simp <;> omega)]
 obtain ⟨c2,g1,g2,g3,g4⟩:=mem_rowstore h5 hb1 (l':=setAt l i z) (xs':=splice xs (i * s.sz + off) us) (cur':=(splice cur.toList (i * s.sz + off) us).toArray) e1' e2 (setAt_len _ _ _) e3 e4
  (by simp only [List.size_toArray]; rw [splice_len _ _ _ (by omega)]; exact hcur) htake hset hlim
 refine opres_skip (c':=c2) ?_ (h4.trans g3) g4 (by rw [g2,h2,putBlks_app])
 rw [g1,h1,exec_store ho,hva,hvu]
 rw [h1] at e2
 have:=run_storeVar ht c.w g (i * s.sz + off) e cur.toList us _ (by simpa using e2) (cells_mkV hlu hone) hlu hone (by omega)
 simp [Instr.storeAt,Instr.sureAddr,this]
theorem foldl_set (off:Nat):∀ (us:List Value) (k:Nat) (cs:List Value),off + k + us.length ≤ cs.length →
  (us.zipIdx k).foldl (fun (cs:Array Value) (p:Value × Nat)=>cs.setIfInBounds (off + p.2) p.1) cs.toArray = (splice cs (off + k) us).toArray
 | [],k,cs,_=>by simp [splice]
 | u :: us,k,cs,h=>by
  simp only [List.zipIdx_cons,List.foldl_cons,List.setIfInBounds_toArray]
  simp only [List.length_cons] at h
  rw [foldl_set off us (k + 1) _ (by simp; omega)]
  congr 1
  have hset:cs.set (off + k) u = (cs.take (off + k) ++ [u]) ++ cs.drop (off + k + 1):=by
   rw [List.set_eq_take_append_cons_drop,if_pos (by omega)]; simp
  have hl:(cs.take (off + k) ++ [u]).length = off + (k + 1):=by simp; omega
  simp only [splice,hset]
  rw [List.take_append_of_le_length (by omega),List.take_of_length_le (by omega),List.drop_append,List.drop_of_length_le (by omega),hl,
   show off + (k + 1) + us.length - (off + (k + 1)) = us.length by omega,List.drop_drop]
  simp only [List.nil_append,List.append_assoc,List.singleton_append,List.cons_append,List.length_cons]
  congr 4
  omega
theorem fill_step {place:Nat→Option (Nat × Nat)} {cs us:List Value} {i off size:Nat} {v:Value} {rest:List (Nat × Value)} (hp:place i = some (off,size)) (hv:v.cells = us.toArray) (hl:us.length = size) (hf:off + size ≤ cs.length) :
  Instr.fill place cs.toArray ((i,v) :: rest) = Instr.fill place (splice cs off us).toArray rest:=by
 rw [Instr.fill,hp]
 simp only [hv,List.size_toArray]
 rw [if_neg (by simp; omega)]
 congr 1
 have:=foldl_set off us 0 cs (by omega)
 rw [Nat.add_zero] at this
 rw [← this]
 simp
theorem FOk_places:∀ (t:Ty) (r:List Field) (o0:Nat),FOk P t r o0→∃ pl:List (Nat × Nat),r.mapM (fun f=>(P.info? f.type).map fun i=>(f.offset,i.size)) = some pl ∧
  ∀ i o s,offTy t [.fld i] = some (o,s)→pl[i]? = some (o0 + o,s.sz):=by
 intro t
 induction t with
 | cons a b _ ihb =>
  intro r o0 h
  cases r with
  | nil=>simp [FOk] at h
  | cons f r =>
   obtain ⟨h1,h2,h3⟩:=h
   obtain ⟨pl,hp,hg⟩:=ihb r _ h3
   obtain ⟨d,hu,_⟩:=h2.und
   obtain ⟨i,hi,hs⟩:=info_of_und hu
   refine ⟨(f.offset,i.size) :: pl,by simp [List.mapM_cons,hi,hp],fun j o s ho=>?_⟩
   cases j with
   | zero =>
    have:offTy a [] = some (o,s):=ho
    have:some (0,a) = some (o,s):=by cases a <;> exact this
    simp only [Option.some.injEq,Prod.mk.injEq] at this
    obtain ⟨rfl,rfl⟩:=this
    simp [h1,hs,h2.size]
   | succ j =>
    simp only [offTy] at ho
    split at ho
    ·
     rename_i o' t' he
     simp only [Option.some.injEq,Prod.mk.injEq] at ho
     obtain ⟨rfl,rfl⟩:=ho
     have:=hg j _ _ he
     simp only [List.getElem?_cons_succ]
     rw [this,Nat.add_assoc]
    ·
     cases ho
 | nil =>
  intro r o0 h
  cases r with
  | nil=>exact ⟨[],rfl,fun i o s ho=>by simp [offTy] at ho⟩
  | cons f r=>simp [FOk] at h
 | _=>intro r o0 h; cases r <;> simp [FOk] at h
theorem fillPV_ok {t:Ty} {place:Nat→Option (Nat × Nat)} (hp:∀ i o s,offTy t [partOf t i] = some (o,s)→place i = some (o,s.sz)):∀ (ps:List (Nat × Operand)) (args:List PV) (v v':PV) (cs:List Value),
  All2 (VOk c) args (ps.map fun x=>a.eval x.2)→a1H c v cs→fits v t = true→fillPV t v (zipNat (ps.map (·.1)) args) = some v' →
  ∃ cs',Instr.fill place cs.toArray (ps.map fun x=>(x.1,a.eval x.2)) = some cs'.toArray∧a1H c v' cs'∧fits v' t = true:=by
 intro ps
 induction ps with
 | nil =>
  intro args v v' cs ha hc hf hv
  simp only [List.map_nil,zipNat,fillPV,Option.some.injEq] at hv
  subst hv
  exact ⟨cs,rfl,hc,hf⟩
 | cons x ps ih =>
  intro args v v' cs ha hc hf hv
  cases args with
  | nil=>exact ha.elim
  | cons u args =>
   obtain ⟨hu,ha⟩:=ha
   simp only [List.map_cons,zipNat,fillPV] at hv
   split at hv
   ·
    rename_i o s ho
    split at hv
    ·
     rename_i hfu
     split at hv
     ·
      rename_i v1 hs
      obtain ⟨us,hcu,hvu,hlu⟩:=cells_vok hu hfu
      obtain ⟨hf1,hc1⟩:=setPath_ok u us hcu v t cs _ o s v1 hc hf ho hfu hs
      obtain ⟨cs',h1,h2,h3⟩:=ih args v1 v' _ ha hc1 hf1 hv
      refine ⟨cs',?_,h2,h3⟩
      rw [List.map_cons,fill_step (hp _ _ _ ho) (by have hvu':a.eval x.2 = _:=hvu; rw [hvu']; exact cells_mkV hlu (cells_one u us hcu)) hlu (by have:=offTy_le _ _ _ _ ho; have:=cells_len _ _ _ hc hf; omega)]
      exact h1
     ·
      cases hv
    ·
     cases hv
   ·
    cases hv
theorem exec_build {id:TypeId} {ps:Array (Nat × Operand)} (ho:o.op = .build id ps):execOp a.eval o = (do pure (.value (← Instr.build id (ps.map fun x=>(x.1,a.eval x.2))))):=by
 simp only [execOp,ho]
theorem law_build (hM:Mem base G0 own0 c) {id:TypeId} {ps:Array (Nat × Operand)} (ho:o.op = .build id ps) {t:Ty} (ht:TI P id t) (hz:t.zOk = true) (hg:t.isAgg = true) {args:List PV} (ha:All2 (VOk c) args (ps.toList.map fun x=>a.eval x.2)) {v:PV}
  (hv:fillPV t (zeroPV t) (zipNat (ps.toList.map (·.1)) args) = some v):OpRes P base G0 own0 o a c v []:=by
 have hq:t ≠ .opq:=by rintro rfl; cases hg
 obtain ⟨hc0,hf0⟩:=zeroPV_ok (c:=c) t hz
 have fin:∀ cs',P.built id (ps.toList.map fun x=>(x.1,a.eval x.2)) = some (List.toArray cs')→a1H c v cs'→fits v t = true→OpRes P base G0 own0 o a c v []:=by
  intro cs' hb hc hf
  refine a1L hM (v:=.agg cs'.toArray) ?_ ?_
  ·
   have:=run_build c.w id (ps.map fun x=>(x.1,a.eval x.2)) cs'.toArray (P:=P) (by simpa using hb)
   rw [exec_build ho]
   simp [this]
  ·
   have:=vok_cells hc hf
   rw [hg] at this
   exact this
 obtain ⟨i,hi,_,hz0⟩:=ht.info
 have hz0:=hz0.resolve_right hq
 have hcz:(mkZ t).cells = (zCells t).toArray:=cells_mkV (zCells_len t) (zCells_one t)
 cases t with
 | cons p q =>
  obtain ⟨_,fs,f,r,hu,hfs,h1,h2,h3⟩:=ht.ok
  obtain ⟨pl,hpl,hpg⟩:=FOk_places (P:=P) (.cons p q) (f :: r) 0 ⟨h1,h2,by simpa using h3⟩
  obtain ⟨cs',g1,g2,g3⟩:=fillPV_ok (place:=(pl.toArray[·]?)) (fun i o s hos=>by have:=hpg i o s hos; simpa using this) ps.toList args _ v _ ha hc0 hf0 hv
  exact fin cs' (by rw [← hfs] at hpl; simp only [Program.built,hi,hu,hz0,hpl,hcz]; exact g1) g2 g3
 | nil =>
  obtain ⟨_,hu⟩:=ht.ok
  obtain ⟨cs',g1,g2,g3⟩:=fillPV_ok (place:=(([]:List (Nat × Nat)).toArray[·]?)) (fun i o s hos=>by simp [offTy,partOf] at hos) ps.toList args _ v _ ha hc0 hf0 hv
  exact fin cs' (by simp only [Program.built,hi,hu,hz0,hcz]; exact g1) g2 g3
 | arr n u =>
  obtain ⟨_,e,hu,he⟩:=ht.ok
  obtain ⟨d,hue,_⟩:=he.und
  obtain ⟨ie,hie,hse⟩:=info_of_und hue
  obtain ⟨cs',g1,g2,g3⟩:=fillPV_ok (place:=fun i=>some (i * u.sz,u.sz)) (fun i o s hos=>by
   simp only [partOf,offTy] at hos
   split at hos
   ·
    simp only [Nat.add_zero,Option.some.injEq,Prod.mk.injEq] at hos
    rw [← hos.1,← hos.2]
   ·
    cases hos) ps.toList args _ v _ ha hc0 hf0 hv
  refine fin cs' ?_ g2 g3
  simp only [Program.built,hi,hu,hz0,hie,hse,he.size,hcz]
  exact g1
 | _=>cases hg
end
end Sym

/- The laws of single operations, fifth part: numbers, addresses of parts, tuples. -/
namespace Sym
open Go
section
variable {P:Program} {base:World} {G0 own0:Nat→Prop} {o:Oper} {a:Act} {c:Cx}
theorem of_val (k:IntKind) (n:Int):(I.of k n).val = k.wrap n:=rfl
theorem wrap_eq_of_range {k:IntKind} {n:Int} (h:k.min ≤ n∧n ≤ k.max):k.wrap n = n:=by
 obtain ⟨h1,h2⟩:=h
 cases k <;> simp only [IntKind.min,IntKind.max,IntKind.wrap,IntKind.bits,IntKind.signed] at * <;> simp at * <;> omega
theorem I.range {k:IntKind} (x:I k):k.min ≤ x.val∧x.val ≤ k.max:=by
 have:=x.ok
 cases k <;> simp only [IntKind.min,IntKind.max,IntKind.wrap,IntKind.bits,IntKind.signed] at * <;> simp at * <;> omega
theorem min_le_zero (k:IntKind):k.min ≤ 0∧0 ≤ k.max:=by cases k <;> decide
theorem rem_val {k:IntKind} (x y:I k):(I.rem x y).val = x.val.tmod y.val:=by
 show k.wrap _ = _
 refine wrap_eq_of_range ?_
 have hx:=x.range
 have hm:=min_le_zero k
 have h3:(x.val.tmod y.val).natAbs ≤ x.val.natAbs:=by rw [Int.natAbs_tmod]; exact Nat.mod_le _ _
 rcases Int.le_total 0 x.val with h | h
 ·
  have:=Int.tmod_nonneg y.val h
  omega
 ·
  have:x.val.tmod y.val ≤ 0:=by
   have:=Int.tmod_nonneg y.val (show 0 ≤ -x.val by omega)
   rw [Int.neg_tmod] at this
   omega
  omega
theorem shr_val {k l:IntKind} (x:I k) (y:I l):(I.shr x y).val = x.val.fdiv (2 ^ (min y.val.toNat k.bits)):=by
 show k.wrap _ = _
 refine wrap_eq_of_range ?_
 have hx:=x.range
 have hm:=min_le_zero k
 have hp:(1:Int) ≤ 2 ^ (min y.val.toNat k.bits):=by
  have:0 < 2 ^ (min y.val.toNat k.bits):=Nat.two_pow_pos _
  have h:((2 ^ (min y.val.toNat k.bits):Nat):Int) = 2 ^ (min y.val.toNat k.bits):=by simp
  omega
 generalize (2:Int) ^ (min y.val.toNat k.bits) = p at hp
 rw [Int.fdiv_eq_ediv_of_nonneg _ (by omega)]
 rcases Int.le_total 0 x.val with h | h
 ·
  have h1:=Int.ediv_nonneg h (show 0 ≤ p by omega)
  have h2:=Int.ediv_le_self p h
  omega
 ·
  have h1:x.val ≤ x.val / p:=by
   refine Int.le_ediv_of_mul_le (by omega) ?_
   have:=Int.mul_nonneg (show 0 ≤ -x.val by omega) (show 0 ≤ p - 1 by omega)
   rw [Int.neg_mul,Int.mul_sub] at this
   omega
  have h2:x.val / p ≤ 0:=by
   have:=Int.ediv_le_ediv (show 0 < p by omega) h
   simpa using this
  omega
theorem obl_T {R:Type} {T:R→Prop} {fail:R} (hf:¬ T fail) {b:Bool} {K:R} (h:T (obl fail b K)):b = true∧T K:=by
 cases b with
 | true=>exact ⟨rfl,h⟩
 | false=>exact absurd h hf
theorem opInt_ok {R:Type} (T:R→Prop) {fail:R} (hf:¬ T fail) {op:BinOp} {k:IntKind} {x y:I k} {K:PV→R} (h:T (opInt fail op x y K)) (hs:isShift op = false) (id:TypeId) (xo yo:Operand) :
  ∃ pv,T (K pv)∧∀ (w:World) (c:Cx),∃ v,VOk c pv v∧(do eqGuard op id xo yo (.int k x.val) (.int k y.val); binOp op id (.int k x.val) (.int k y.val)).run P w = .ok v w:=by
 have hg:∀ w,(eqGuard op id xo yo (.int k x.val) (.int k y.val)).run P w = .ok () w:=by intro w; cases op <;> rfl
 simp only [Sem.run_bind,hg,Result.andThen_ok]
 unfold opInt at h
 cases op <;> simp only at h
 all_goals first
  | exact absurd h hf
  | (refine ⟨_,h,fun w c=>⟨_,ok_int _,?_⟩⟩; simp [binOp,Op.intArith,Op.intBits,I.add,I.sub,I.mul,I.and,I.or,I.xor,I.andNot,of_val]; done)
  | (refine ⟨_,h,fun w c=>⟨_,ok_bool _,?_⟩⟩; simp [binOp,Op.intCmp,I.eqb,I.neb,I.ltb,I.leb]; done)
  | skip
 case quo =>
  obtain ⟨h1,h⟩:=obl_T hf h
  have h1:y.val ≠ 0:=by simpa [I.nz] using h1
  refine ⟨_,h,fun w c=>⟨_,ok_int _,?_⟩⟩
  simp [binOp,Op.intDiv,h1,I.quo,of_val]
 case rem =>
  obtain ⟨h1,h⟩:=obl_T hf h
  have h1:y.val ≠ 0:=by simpa [I.nz] using h1
  refine ⟨_,h,fun w c=>⟨_,ok_int _,?_⟩⟩
  rw [rem_val]
  simp [binOp,Op.intDiv,h1]
 all_goals (refine ⟨_,h,fun w c=>⟨_,ok_bool _,?_⟩⟩; simp [binOp,Op.intCmp,I.eqb,I.neb,I.ltb,I.leb,bne]; try rfl)
theorem opShift_ok {R:Type} (T:R→Prop) {fail:R} (hf:¬ T fail) {op:BinOp} {k l:IntKind} {x:I k} {y:I l} {K:PV→R} (h:T (opShift fail op x y K)) (id:TypeId) (xo yo:Operand) :
  ∃ pv,T (K pv)∧∀ (w:World) (c:Cx),∃ v,VOk c pv v∧(do eqGuard op id xo yo (.int k x.val) (.int l y.val); binOp op id (.int k x.val) (.int l y.val)).run P w = .ok v w:=by
 have hg:∀ w,(eqGuard op id xo yo (.int k x.val) (.int l y.val)).run P w = .ok () w:=by intro w; cases op <;> rfl
 simp only [Sem.run_bind,hg,Result.andThen_ok]
 unfold opShift at h
 cases op <;> simp only at h
 case shl =>
  obtain ⟨h1,h⟩:=obl_T hf h
  have h1 : ¬ y.val < 0 := by have : 0 ≤ y.val := by simpa [I.nn] using h1
                              omega
  refine ⟨_,h,fun w c=>⟨_,ok_int _,?_⟩⟩
  simp [binOp,Op.shift,h1,I.shl,of_val]
 case shr =>
  obtain ⟨h1,h⟩:=obl_T hf h
  have h1 : ¬ y.val < 0 := by have : 0 ≤ y.val := by simpa [I.nn] using h1
                              omega
  refine ⟨_,h,fun w c=>⟨_,ok_int _,?_⟩⟩
  rw [shr_val]
  simp [binOp,Op.shift,h1]
 all_goals exact absurd h hf
structure EqI (P:Program) (id:TypeId) (t:Ty):Prop where
 ok:TOk P t id
 eq:t = .opq ∨ (eqtB P t id = true∧t.dep ≤ 9000∧(t.isAgg = true→P.eqGuardType P.depth id = false))
theorem mkV_enc {w:World} {G:Nat→Prop} {t:Ty} {x:t.D} {cs:List Value} (h:Enc w G t x cs) (ha:t.isAgg = false):∃ v,cs = [v]∧v.oneCell' = true∧mkV t.isAgg cs = v:=by
 have hl:=Enc_len _ _ _ h
 have h1:=Enc_one _ _ _ h
 have hs:t.sz = 1:=by cases t <;> first | rfl | cases ha
 rw [hs] at hl
 match cs,hl with
 | [v],_=>exact ⟨v,rfl,h1 v (by simp),by rw [ha]; rfl⟩
theorem eql_ok {c:Cx} {t:Ty} {id:TypeId} (hq:EqI P id t) (hn:t ≠ .opq) {x y:t.D} {u v:Value} (hu:VOk c (.val t x) u) (hv:VOk c (.val t y) v) (w:World) (xo yo:Operand) :
  (do eqGuard .eql id xo yo u v; binOp .eql id u v).run P w = .ok (.bool (t.eqb x y)) w∧(do eqGuard .neq id xo yo u v; binOp .neq id u v).run P w = .ok (.bool (!t.eqb x y)) w:=by
 obtain ⟨cs,h1,rfl⟩:=hu
 obtain ⟨cs',h2,rfl⟩:=hv
 obtain ⟨he,hd,hgd⟩:=hq.eq.resolve_left hn
 have hr:=(run_equal (P:=P) (w0:=w) t).1 9999 id x y cs cs' (by omega) hq.ok he h1 h2
 have hr:(Op.equal id (mkV t.isAgg cs) (mkV t.isAgg cs')).run P w = .ok (t.eqb x y) w:=hr
 simp only [isAggPV]
 cases ha:t.isAgg with
 | true =>
  rw [ha] at hr
  have hg:=hgd ha
  simp only [mkV] at hr ⊢
  constructor
  ·
   rw [Sem.run_bind,run_eqGuard_agg w _ id xo yo _ _ hg,Result.andThen_ok]
   simp [binOp,hr]
  ·
   rw [Sem.run_bind,run_eqGuard_agg w _ id xo yo _ _ hg,Result.andThen_ok]
   simp [binOp,hr]
 | false =>
  obtain ⟨u,rfl,_,hu⟩:=mkV_enc h1 ha
  obtain ⟨v,rfl,_,hv⟩:=mkV_enc h2 ha
  rw [ha] at hr hu hv
  simp only [mkV,List.headD_cons] at hr ⊢
  cases t with
  | int k =>
   simp only [a1H,Enc,List.cons.injEq,and_true] at h1 h2
   subst h1; subst h2
   constructor
   ·
    have:(eqGuard .eql id xo yo (.int k x.val) (.int k y.val)).run P w = .ok () w:=rfl
    rw [Sem.run_bind,this,Result.andThen_ok]
    simp [binOp,Op.intCmp,Ty.eqb]
    rfl
   ·
    have:(eqGuard .neq id xo yo (.int k x.val) (.int k y.val)).run P w = .ok () w:=rfl
    rw [Sem.run_bind,this,Result.andThen_ok]
    simp [binOp,Op.intCmp,Ty.eqb,bne]
    rfl
  | bool =>
   simp only [a1H,Enc,List.cons.injEq,and_true] at h1 h2
   subst h1; subst h2
   constructor
   ·
    have:(eqGuard .eql id xo yo (.bool x) (.bool y)).run P w = .ok () w:=rfl
    rw [Sem.run_bind,this,Result.andThen_ok]
    simp only [binOp,Sem.run_bind,hr,Result.andThen_ok,Sem.run_pure]
   ·
    have:(eqGuard .neq id xo yo (.bool x) (.bool y)).run P w = .ok () w:=rfl
    rw [Sem.run_bind,this,Result.andThen_ok]
    simp only [binOp,Sem.run_bind,hr,Result.andThen_ok,Sem.run_pure]
  | _=>first | (simp [eqtB] at he; done) | cases ha
theorem unPV_ok {R:Type} (T:R→Prop) {fail:R} (hf:¬ T fail) {op:UnOp} {x:PV} {K:PV→R} (h:T (unPV fail op x K)) :
  ∃ pv,T (K pv)∧∀ (w:World) (c:Cx) (u:Value),VOk c x u→∃ v,VOk c pv v∧(Op.unary op u).run P w = .ok v w:=by
 unfold unPV at h
 split at h
 ·
  rename_i k n
  refine ⟨_,h,fun w c u hu=>⟨_,ok_int _,?_⟩⟩
  rw [v_int hu]
  simp [Op.unary,Op.intArith,I.neg,of_val]
 ·
  rename_i k n
  refine ⟨_,h,fun w c u hu=>⟨_,ok_int _,?_⟩⟩
  rw [v_int hu]
  simp [Op.unary,Op.intBits,I.com,of_val]
 ·
  rename_i b
  refine ⟨_,h,fun w c u hu=>⟨_,ok_bool _,?_⟩⟩
  rw [v_bool hu]
  simp [Op.unary]
 ·
  exact absurd h hf
end
end Sym

/- Strings: what the machine's operations on them answer. -/
namespace Sym
open Go
section
variable {P:Program}
def byteOf (c:I .u8):UInt8:=UInt8.ofNat c.val.toNat
theorem u8_lt (c:I .u8):0 ≤ c.val∧c.val < 256:=by
 have h:=c.ok
 simp only [IntKind.wrap,IntKind.bits,IntKind.signed,Bool.false_and,Bool.false_eq_true,if_false] at h
 omega
theorem byteOf_nat (c:I .u8):((byteOf c).toNat:Int) = c.val:=by
 have:=u8_lt c
 unfold byteOf
 rw [UInt8.toNat_ofNat']
 omega
theorem byteOf_data (l:List (I .u8)):(bytesOf l).data.toList = l.map byteOf:=by
 show ((l.map byteOf).toArray).toList = _
 exact List.toList_toArray
theorem bytesOf_list (l:List (I .u8)):(bytesOf l).toList = l.map byteOf:=by rw [ByteArray.toList_eq,byteOf_data]
theorem bytesOf_size (l:List (I .u8)):(bytesOf l).size = l.length:=by
 show ((l.map byteOf).toArray).size = _
 rw [List.size_toArray,List.length_map]
theorem byteOf_eq (a b:I .u8):(byteOf a == byteOf b) = I.eqb a b:=by
 have ha:=byteOf_nat a
 have hb:=byteOf_nat b
 unfold I.eqb
 by_cases h:a.val = b.val
 ·
  have:byteOf a = byteOf b:=UInt8.toNat_inj.1 (by omega)
  simp [this,h]
 ·
  have:byteOf a ≠ byteOf b:=fun e=>h (by rw [← ha,← hb,e])
  simp [this,h]
theorem byteOf_lt (a b:I .u8):decide (byteOf a < byteOf b) = I.ltb a b:=by
 have ha:=byteOf_nat a
 have hb:=byteOf_nat b
 unfold I.ltb
 rw [decide_eq_decide,UInt8.lt_iff_toNat_lt]
 omega
theorem strEq_ok:∀ (x y:List (I .u8)),(x.map byteOf == y.map byteOf) = strEq x y
 | [],[]=>rfl
 | [],_ :: _=>rfl
 | _ :: _,[]=>rfl
 | a :: x,b :: y=>by
  show (byteOf a == byteOf b && x.map byteOf == y.map byteOf) = _
  rw [byteOf_eq,strEq_ok x y]; rfl
theorem strLt_ok:∀ (x y:List (I .u8)),Op.bytesLess (x.map byteOf) (y.map byteOf) = strLt x y
 | [],[]=>rfl
 | [],_ :: _=>rfl
 | _ :: _,[]=>rfl
 | a :: x,b :: y=>by
  show (decide (byteOf a < byteOf b) || (byteOf a == byteOf b && Op.bytesLess (x.map byteOf) (y.map byteOf))) = _
  rw [byteOf_lt,byteOf_eq,strLt_ok x y]; rfl
theorem v_str {c:Cx} {x:List (I .u8)} {v:Value} (h:VOk c (.val .str x) v):v = .string (bytesOf x)∧x.length ≤ LIM:=by
 obtain ⟨cs,⟨rfl,hl⟩,hv⟩:=h
 exact ⟨hv,hl⟩
theorem ok_str {c:Cx} {x:List (I .u8)} (h:x.length ≤ LIM):VOk c (.val .str x) (.string (bytesOf x)):=⟨_,⟨rfl,h⟩,rfl⟩
theorem bytesOf_app (x y:List (I .u8)):bytesOf x ++ bytesOf y = bytesOf (x ++ y):=by
 show (⟨(x.map byteOf).toArray⟩:ByteArray) ++ ⟨(y.map byteOf).toArray⟩ = ⟨((x ++ y).map byteOf).toArray⟩
 rw [ByteArray.mk_append_mk,List.map_append]
theorem strPV_ok {R:Type} (T:R→Prop) {fail:R} (hf:¬ T fail) {op:BinOp} {x y:List (I .u8)} {K:PV→R} (h:T (strPV fail op x y K)) (id:TypeId) (xo yo:Operand) :
  ∃ pv,T (K pv)∧∀ (w:World) (c:Cx) (u v:Value),VOk c (.val .str x) u→VOk c (.val .str y) v→∃ r,VOk c pv r∧(do eqGuard op id xo yo u v; binOp op id u v).run P w = .ok r w:=by
 have hg:∀ (op:BinOp) (s t:ByteArray) (w:World),(eqGuard op id xo yo (.string s) (.string t)).run P w = .ok () w:=by
  intro op s t w
  unfold eqGuard
  cases op <;> rfl
 have key:∀ (op:BinOp) (b:Bool),(∀ w,(binOp op id (.string (bytesOf x)) (.string (bytesOf y))).run P w = .ok (.bool b) w) →
   ∀ (w:World) (c:Cx) (u v:Value),VOk c (.val .str x) u→VOk c (.val .str y) v→∃ r,VOk c (.val .bool b) r∧(do eqGuard op id xo yo u v; binOp op id u v).run P w = .ok r w:=by
  intro op b hb w c u v hu hv
  refine ⟨_,ok_bool _,?_⟩
  rw [(v_str hu).1,(v_str hv).1,Sem.run_bind,hg,Result.andThen_ok,hb]
 have he:((bytesOf x).toList == (bytesOf y).toList) = strEq x y:=by rw [bytesOf_list,bytesOf_list,strEq_ok]
 have hl:Op.bytesLess (bytesOf x).toList (bytesOf y).toList = strLt x y:=by rw [bytesOf_list,bytesOf_list,strLt_ok]
 unfold strPV at h
 cases op <;> simp only at h
 case add =>
  have h0:a1Z (a1I (appL x y)) = true∧T (K (.val .str (appL x y))):=by
   cases hb:a1Z (a1I (appL x y))
   ·
    rw [hb] at h; exact absurd h hf
   ·
    rw [hb] at h; exact ⟨rfl,h⟩
  have hfl:(x ++ y).length ≤ 1073741824:=by simpa [a1Z] using h0.1
  refine ⟨_,h0.2,fun w c u v hu hv=>⟨_,ok_str (by show (x ++ y).length ≤ LIM; simp only [LIM]; omega),?_⟩⟩
  rw [(v_str hu).1,(v_str hv).1,Sem.run_bind,hg,Result.andThen_ok,binOp_string_add,run_string_add_sum,bytesOf_app]
  rw [bytesOf_size,bytesOf_size]
  rw [List.length_append] at hfl
  omega
 case eql=>exact ⟨_,h,key _ _ fun w=>by rw [binOp_string_eql,Sem.run_pure,he]⟩
 case neq=>exact ⟨_,h,key _ _ fun w=>by rw [binOp_string_neq,Sem.run_pure,he]⟩
 case lss=>exact ⟨_,h,key _ _ fun w=>by rw [binOp_string_lss,Sem.run_pure,hl]⟩
 case leq=>exact ⟨_,h,key _ _ fun w=>by simp only [binOp,Op.stringOp,Sem.run_pure,he,hl]⟩
 case gtr=>exact ⟨_,h,key _ _ fun w=>by simp only [binOp,Op.stringOp,Sem.run_pure,he,hl]⟩
 case geq=>exact ⟨_,h,key _ _ fun w=>by simp only [binOp,Op.stringOp,Sem.run_pure,he,hl]⟩
 all_goals exact absurd h hf
end
end Sym

/- The laws of single operations, sixth part: comparisons, addresses of parts, tuples. -/
namespace Sym
open Go
section
variable {P:Program} {base:World} {G0 own0:Nat→Prop} {o:Oper} {a:Act} {c:Cx}
theorem run_ptr_eq {id:TypeId} (hq:TOk P .opq id) (w:World) (x y:Option Addr) (h:x = none ∨ y = none) (xo yo:Operand) :
  (do eqGuard .eql id xo yo (.pointer x) (.pointer y); binOp .eql id (.pointer x) (.pointer y)).run P w = .ok (.bool (x.isNone && y.isNone)) w ∧
  (do eqGuard .neq id xo yo (.pointer x) (.pointer y); binOp .neq id (.pointer x) (.pointer y)).run P w = .ok (.bool (!(x.isNone && y.isNone))) w:=by
 obtain ⟨_,d,hu,hd⟩:=hq
 have:∃ e,d = .pointer e:=by cases d <;> first | (simp [isDesc] at hd; done) | exact ⟨_,rfl⟩
 obtain ⟨e,rfl⟩:=this
 have hr:(Op.equal id (.pointer x) (.pointer y)).run P w = .ok (x.isNone && y.isNone) w:=by
  show (Op.equalIn (9999 + 1) id (.pointer x) (.pointer y)).run P w = _
  unfold Op.equalIn
  rw [Sem.run_bind,run_underlying hu,Result.andThen_ok]
  rcases h with rfl | rfl
  ·
   simp
  ·
   cases x <;> simp
 constructor
 ·
  have:(eqGuard .eql id xo yo (.pointer x) (.pointer y)).run P w = .ok () w:=rfl
  rw [Sem.run_bind,this,Result.andThen_ok]
  simp [binOp,hr]
 ·
  have:(eqGuard .neq id xo yo (.pointer x) (.pointer y)).run P w = .ok () w:=rfl
  rw [Sem.run_bind,this,Result.andThen_ok]
  simp [binOp,hr]
theorem v_npt {v:Value} (h:VOk c .npt v):v = .pointer none:=by
 obtain ⟨cs,h1,h2⟩:=h; simp only [a1H] at h1; subst h1; exact h2
theorem v_ptr_some {b:Nat} {p:List Step} {v:Value} (h:VOk c (.ptr b p) v):∃ ad,v = .pointer (some ad):=(v_ptr h).some
theorem v_bptr_some {t:Ty} {x:t.D} {v:Value} (h:VOk c (.bptr t x) v):∃ ad,v = .pointer (some ad):=by
 obtain ⟨cs,⟨ad,ds,rfl,_⟩,rfl⟩:=h; exact ⟨ad,rfl⟩
theorem binPV_ok {R:Type} (T:R→Prop) {fail:R} (hf:¬ T fail) {op:BinOp} {eqt:Option Ty} {x y:PV} {K:PV→R} (h:T (binPV fail op eqt x y K)) (id:TypeId) (hq:∀ t,eqt = some t→EqI P id t) (xo yo:Operand) :
  ∃ pv,T (K pv)∧∀ (w:World) (c:Cx) (u v:Value),VOk c x u→VOk c y v→∃ r,VOk c pv r∧(do eqGuard op id xo yo u v; binOp op id u v).run P w = .ok r w:=by
 unfold binPV at h
 split at h
 ·
  rename_i k p l q
  split at h
  ·
   obtain ⟨pv,h1,h2⟩:=opShift_ok (P:=P) T hf h id xo yo
   refine ⟨pv,h1,fun w c u v hu hv=>?_⟩
   rw [v_int hu,v_int hv]
   exact h2 w c
  ·
   rename_i hs
   split at h
   ·
    rename_i q' hq'
    obtain ⟨e,rfl⟩:=cast_eq hq'
    injection e with e
    subst e
    obtain ⟨pv,h1,h2⟩:=opInt_ok (P:=P) T hf h hs id xo yo
    refine ⟨pv,h1,fun w c u v hu hv=>?_⟩
    rw [v_int hu,v_int hv]
    exact h2 w c
   ·
    exact absurd h hf
 ·
  rename_i p q
  exact strPV_ok (P:=P) T hf h id xo yo
 ·
  rename_i t p u q _ _
  split at h
  ·
   rename_i s
   split at h
   ·
    rename_i p' q' hp hq'
    obtain ⟨e,rfl⟩:=cast_eq hp
    subst e
    obtain ⟨e,rfl⟩:=cast_eq hq'
    subst e
    have hE:=hq u rfl
    by_cases hn:u = .opq
    ·
     subst hn
     cases op <;> simp only at h
     case eql=>exact ⟨_,h,fun w c v v' hv=>by obtain ⟨cs,h1,_⟩:=hv; exact h1.elim⟩
     case neq=>exact ⟨_,h,fun w c v v' hv=>by obtain ⟨cs,h1,_⟩:=hv; exact h1.elim⟩
     all_goals exact absurd h hf
    ·
     cases op <;> simp only at h
     case eql=>exact ⟨_,h,fun w c v v' hv hv'=>⟨_,ok_bool _,(eql_ok hE hn hv hv' w xo yo).1⟩⟩
     case neq=>exact ⟨_,h,fun w c v v' hv hv'=>⟨_,ok_bool _,(eql_ok hE hn hv hv' w xo yo).2⟩⟩
     all_goals exact absurd h hf
   ·
    exact absurd h hf
  ·
   exact absurd h hf
 ·
  split at h
  ·
   have hE:=(hq .opq rfl).ok
   cases op <;> simp only at h
   case eql=>exact ⟨_,h,fun w c v v' hv hv'=>⟨_,ok_bool _,by rw [v_npt hv,v_npt hv']; exact (run_ptr_eq hE w none none (.inl rfl) xo yo).1⟩⟩
   case neq=>exact ⟨_,h,fun w c v v' hv hv'=>⟨_,ok_bool _,by rw [v_npt hv,v_npt hv']; exact (run_ptr_eq hE w none none (.inl rfl) xo yo).2⟩⟩
   all_goals exact absurd h hf
  ·
   have hE:=(hq .opq rfl).ok
   cases op <;> simp only at h
   case eql=>exact ⟨_,h,fun w c v v' hv hv'=>⟨_,ok_bool _,by obtain ⟨ad,e⟩:=v_ptr_some hv; rw [e,v_npt hv']; exact (run_ptr_eq hE w (some ad) none (.inr rfl) xo yo).1⟩⟩
   case neq=>exact ⟨_,h,fun w c v v' hv hv'=>⟨_,ok_bool _,by obtain ⟨ad,e⟩:=v_ptr_some hv; rw [e,v_npt hv']; exact (run_ptr_eq hE w (some ad) none (.inr rfl) xo yo).2⟩⟩
   all_goals exact absurd h hf
  ·
   have hE:=(hq .opq rfl).ok
   cases op <;> simp only at h
   case eql=>exact ⟨_,h,fun w c v v' hv hv'=>⟨_,ok_bool _,by obtain ⟨ad,e⟩:=v_bptr_some hv; rw [e,v_npt hv']; exact (run_ptr_eq hE w (some ad) none (.inr rfl) xo yo).1⟩⟩
   case neq=>exact ⟨_,h,fun w c v v' hv hv'=>⟨_,ok_bool _,by obtain ⟨ad,e⟩:=v_bptr_some hv; rw [e,v_npt hv']; exact (run_ptr_eq hE w (some ad) none (.inr rfl) xo yo).2⟩⟩
   all_goals exact absurd h hf
  ·
   exact absurd h hf
 ·
  exact absurd h hf
theorem law_nilCheck (hM:Mem base G0 own0 c) {x:Operand} (ho:o.op = .nilCheck x) {pv:PV} (hn:isNilPtr pv = false) (hx:VOk c pv (a.eval x)):OpRes P base G0 own0 o a c pv []:=by
 refine a1L hM (v:=a.eval x) ?_ hx
 cases pv with
 | ptr b p=>obtain ⟨ad,e⟩:=v_ptr_some hx; simp [execOp,ho,e]
 | bptr t y=>obtain ⟨ad,e⟩:=v_bptr_some hx; simp [execOp,ho,e]
 | fn f =>
  obtain ⟨cs,h1,h2⟩:=hx
  simp only [a1H] at h1
  subst h1
  have h2:a.eval x = .func (.func f) #[] #[]:=h2
  simp [execOp,ho,h2]
 | clo f y =>
  obtain ⟨cs,⟨us,e,_⟩,h2⟩:=hx
  subst e
  have h2:a.eval x = .func (.func f) #[] us.toArray:=h2
  simp [execOp,ho,h2]
 | _=>simp [isNilPtr] at hn
theorem offTy_fld:∀ (t:Ty) (p:List Step) (off:Nat) (u:Ty) (f:Nat),offTy t p = some (off,u)→∀ q,offTy t (p ++ q) = (offTy u q).map fun x=>(off + x.1,x.2):=by
 intro t
 induction t with
 | cons a b iha ihb =>
  intro p off u f h q
  match p,h with
  | [],h =>
   simp only [offTy,Option.some.injEq,Prod.mk.injEq] at h
   obtain ⟨rfl,rfl⟩:=h
   simp
  | .fld 0 :: p,h=>exact iha p off u f h q
  | .fld (j + 1) :: p,h =>
   simp only [offTy] at h
   split at h
   ·
    rename_i o' t' he
    simp only [Option.some.injEq,Prod.mk.injEq] at h
    obtain ⟨rfl,rfl⟩:=h
    have:=ihb _ _ _ f he q
    rw [List.cons_append] at this
    simp only [List.cons_append,offTy,this]
    cases offTy t' q with
    | none=>rfl
    | some x=>simp [Nat.add_assoc]
   ·
    cases h
  | .idx i :: p,h=>simp [offTy] at h
 | arr n t ih =>
  intro p off u f h q
  match p,h with
  | [],h =>
   simp only [offTy,Option.some.injEq,Prod.mk.injEq] at h
   obtain ⟨rfl,rfl⟩:=h
   simp
  | .fld 0 :: p,h=>simp [offTy] at h
  | .fld (j + 1) :: p,h=>simp [offTy] at h
  | .idx i :: p,h =>
   simp only [offTy] at h
   split at h
   ·
    rename_i hi
    split at h
    ·
     rename_i o' t' he
     simp only [Option.some.injEq,Prod.mk.injEq] at h
     obtain ⟨rfl,rfl⟩:=h
     have:=ih _ _ _ f he q
     simp only [List.cons_append,offTy,hi,if_true,this]
     cases offTy t' q with
     | none=>rfl
     | some x=>simp [Nat.add_assoc]
    ·
     cases h
   ·
    cases h
 | _ =>
  intro p off u f h q
  match p,h with
  | [],h =>
   simp only [offTy,Option.some.injEq,Prod.mk.injEq] at h
   obtain ⟨rfl,rfl⟩:=h
   simp
  | .fld 0 :: p,h=>simp [offTy] at h
  | .fld (j + 1) :: p,h=>simp [offTy] at h
  | .idx i :: p,h=>simp [offTy] at h
end
end Sym

/- The laws of single operations, seventh part: addresses of fields and elements. -/
namespace Sym
open Go
section
variable {P:Program} {base:World} {G0 own0:Nat→Prop} {o:Oper} {a:Act} {c:Cx}
theorem FOk_get:∀ (t:Ty) (r:List Field) (o0:Nat),FOk P t r o0→∀ i off s,offTy t [.fld i] = some (off,s)→∃ f,r[i]? = some f∧f.offset = o0 + off∧TOk P s f.type:=by
 intro t
 induction t with
 | cons a b _ ihb =>
  intro r o0 h i off s ho
  cases r with
  | nil=>simp [FOk] at h
  | cons f r =>
   obtain ⟨h1,h2,h3⟩:=h
   cases i with
   | zero =>
    have:offTy a [] = some (off,s):=ho
    have:some (0,a) = some (off,s):=by cases a <;> exact this
    simp only [Option.some.injEq,Prod.mk.injEq] at this
    obtain ⟨rfl,rfl⟩:=this
    exact ⟨f,rfl,by simpa using h1,h2⟩
   | succ i =>
    simp only [offTy] at ho
    split at ho
    ·
     rename_i o' t' he
     simp only [Option.some.injEq,Prod.mk.injEq] at ho
     obtain ⟨rfl,rfl⟩:=ho
     obtain ⟨g,g1,g2,g3⟩:=ihb r _ h3 i _ _ he
     exact ⟨g,by simpa using g1,by omega,g3⟩
    ·
     cases ho
 | _=>intro r o0 h i off s ho; simp [offTy] at ho
theorem TOk.field {t:Ty} {id:TypeId} (h:TOk P t id) {i off:Nat} {s:Ty} (ho:offTy t [.fld i] = some (off,s)):∃ fs f,P.underlying id = some (.struct fs)∧fs[i]? = some f∧f.offset = off∧TOk P s f.type:=by
 cases t with
 | cons p q =>
  obtain ⟨_,fs,f,r,hu,hfs,h1,h2,h3⟩:=h
  obtain ⟨g,g1,g2,g3⟩:=FOk_get (P:=P) (.cons p q) (f :: r) 0 ⟨h1,h2,by simpa using h3⟩ i off s ho
  refine ⟨fs,g,hu,?_,by omega,g3⟩
  rw [← Array.getElem?_toList,hfs]; exact g1
 | _=>simp [offTy] at ho
theorem run_fieldAt {t:Ty} {id:TypeId} (h:TOk P t id) {i off:Nat} {s:Ty} (ho:offTy t [.fld i] = some (off,s)) (hs:1 ≤ s.sz) (w:World) (r q:Nat) :
  (Instr.fieldAt id (.pointer (some ⟨r,q,none⟩)) i).run P w = .ok (.pointer (some ⟨r,q + off,none⟩)) w:=by
 obtain ⟨fs,f,hu,hf,hoff,hok⟩:=h.field ho
 unfold Instr.fieldAt
 rw [Sem.run_bind,run_underlying hu,Result.andThen_ok]
 simp only [hf,Instr.sureAddr,Sem.run_bind,Sem.run_pure,Result.andThen_ok,fieldPlace,hok.run_size]
 rw [if_neg (by omega)]
 simp [add_lit,hoff]
theorem ptr_part {b:Nat} {p q:List Step} {t u:Ty} {off':Nat} (hp:ptrIs c.H b p t = true) (hq:offTy t q = some (off',u)) {v:Value} (hv:PtrOk c b p v) :
  ∃ r off,v = .pointer (some ⟨r,off,none⟩)∧PtrOk c b (p ++ q) (.pointer (some ⟨r,off + off',none⟩)):=by
 unfold ptrIs at hp
 unfold PtrOk at hv ⊢
 cases hb:a0K c.H b with
 | unborn=>simp [hb] at hp
 | dead=>simp [hb] at hp
 | box s w =>
  simp only [hb] at hp hv ⊢
  obtain ⟨r,off,u',e1,e2,rfl⟩:=hv
  have:=tyIs_off hp e2
  subst this
  refine ⟨r,off,rfl,r,off + off',u,e1,?_,rfl⟩
  rw [offTy_fld s p off u' 0 e2,hq]; rfl
 | row s l =>
  simp only [hb] at hp hv ⊢
  obtain ⟨r,cap,i,p',off,u',e1,rfl,hi,e2,rfl⟩:=hv
  simp only at hp
  have:=tyIs_off hp e2
  subst this
  refine ⟨r,i * s.sz + off,rfl,r,cap,i,p' ++ q,off + off',u,e1,rfl,hi,?_,by rw [Nat.add_assoc]⟩
  rw [offTy_fld s p' off u' 0 e2,hq]; rfl
theorem ok_ptr {b:Nat} {p:List Step} {v:Value} (h:PtrOk c b p v):VOk c (.ptr b p) v:=by
 obtain ⟨ad,e⟩:=h.some
 exact ⟨[v],⟨v,rfl,by rw [e]; rfl,h⟩,rfl⟩
theorem law_fieldAddr (hM:Mem base G0 own0 c) {id:TypeId} {x:Operand} {f:Nat} (ho:o.op = .fieldAddr id x f) {t u:Ty} (ht:TOk P t id) {off:Nat} (hoff:offTy t [.fld f] = some (off,u)) (hs:1 ≤ u.sz) {b:Nat} {p:List Step}
  (hp:ptrIs c.H b p t = true) (hx:VOk c (.ptr b p) (a.eval x)):OpRes P base G0 own0 o a c (.ptr b (p ++ [.fld f])) []:=by
 obtain ⟨r,q,hv,hp'⟩:=ptr_part hp hoff (v_ptr hx)
 refine a1L hM (v:=.pointer (some ⟨r,q + off,none⟩)) ?_ (ok_ptr hp')
 have:=run_fieldAt ht hoff hs c.w r q
 simp [execOp,ho,hv,this]
theorem law_fieldAddr_b (hM:Mem base G0 own0 c) {id:TypeId} {x:Operand} {f:Nat} (ho:o.op = .fieldAddr id x f) {t u w:Ty} (ht:TOk P t id) {off:Nat} (hoff:offTy t [.fld f] = some (off,u)) (hs:1 ≤ u.sz) {y:t.D} {z:w.D}
  (hg:getVal t y [.fld f] = some (.val w z)) (hx:VOk c (.bptr t y) (a.eval x)):OpRes P base G0 own0 o a c (.bptr w z) []:=by
 obtain ⟨cs,⟨ad,ds,rfl,hsp,hG,he,hc⟩,hv⟩:=hx
 obtain ⟨r,q,spot⟩:=ad
 simp only at hsp hc hG
 subst hsp
 obtain ⟨z',e,hz⟩:=enc_getVal t y ds _ off u _ he hoff hg
 simp only [PV.val.injEq] at e
 obtain ⟨rfl,e⟩:=e
 have e:=eq_of_heq e
 subst e
 refine a1L hM (v:=.pointer (some ⟨r,q + off,none⟩)) ?_ ⟨_,⟨⟨r,q + off,none⟩,_,rfl,rfl,hG,hz,?_⟩,rfl⟩
 ·
  have:=run_fieldAt ht hoff hs c.w r q
  have hv:a.eval x = .pointer (some ⟨r,q,none⟩):=hv
  simp [execOp,ho,hv,this]
 ·
  intro j d hj
  rw [List.getElem?_take] at hj
  split at hj
  ·
   rw [List.getElem?_drop] at hj
   have:=hc _ _ hj
   rw [← Nat.add_assoc] at this
   exact this
  ·
   cases hj
theorem inB_iff {k:IntKind} {i:I k} {n:Nat} (h:inB i n = true):0 ≤ i.val∧i.val < n∧i.nat < n∧i.val = i.nat:=by
 simp only [inB,Bool.and_eq_true,decide_eq_true_eq] at h
 unfold I.nat
 omega
theorem run_indexAt_arr {n:Nat} {t:Ty} {id:TypeId} (h:TOk P (.arr n t) id) {k:IntKind} {i:I k} (hi:inB i n = true) (w:World) (r q:Nat) :
  (Instr.indexAt id (.pointer (some ⟨r,q,none⟩)) (.int k i.val)).run P w = .ok (.pointer (some ⟨r,q + i.nat * t.sz,none⟩)) w:=by
 obtain ⟨_,e,hu,he⟩:=h
 obtain ⟨h0,h1,_,h2⟩:=inB_iff hi
 unfold Instr.indexAt
 simp only [asIntOf,Sem.run_bind,Sem.run_pure,Result.andThen_ok,run_underlying hu,Instr.sureAddr]
 simp only [Sem.run_ite,h0,h1,and_self,if_true,Sem.run_bind,he.run_size,Result.andThen_ok,Sem.run_pure,add_lit]
 rfl
theorem run_indexAt_sl {t:Ty} {id:TypeId} (h:TOk P (.sl t) id) {k:IntKind} {i:I k} {n:Nat} (hi:inB i n = true) (w:World) (r q cap:Nat) :
  (Instr.indexAt id (.slice (some ⟨r,q,none⟩) n cap) (.int k i.val)).run P w = .ok (.pointer (some ⟨r,q + i.nat * t.sz,none⟩)) w:=by
 obtain ⟨_,e,hu,he⟩:=h
 obtain ⟨h0,h1,_,h2⟩:=inB_iff hi
 unfold Instr.indexAt
 simp only [asIntOf,Sem.run_bind,Sem.run_pure,Result.andThen_ok,run_underlying hu]
 simp only [Sem.run_ite,h0,h1,and_self,if_true,Sem.run_bind,he.run_size,Result.andThen_ok,Sem.run_pure,add_lit]
 rfl
theorem exec_indexAddr {id:TypeId} {x y:Operand} (ho:o.op = .indexAddr id x y):execOp a.eval o = (do pure (.value (← Instr.indexAt id (a.eval x) (a.eval y)))):=by
 simp only [execOp,ho]
theorem law_indexAddr_arr (hM:Mem base G0 own0 c) {id:TypeId} {x y:Operand} (ho:o.op = .indexAddr id x y) {n:Nat} {u:Ty} (ht:TOk P (.arr n u) id) {k:IntKind} {i:I k} (hi:inB i n = true) {b:Nat} {p:List Step}
  (hp:ptrIs c.H b p (.arr n u) = true) (hx:VOk c (.ptr b p) (a.eval x)) (hy:VOk c (.val (.int k) i) (a.eval y)):OpRes P base G0 own0 o a c (.ptr b (p ++ [.idx i.nat])) []:=by
 have hoff:offTy (.arr n u) [.idx i.nat] = some (i.nat * u.sz,u):=by
  have:=(inB_iff hi).2.2.1
  have h0:offTy u [] = some (0,u):=by cases u <;> rfl
  simp [offTy,this]
 obtain ⟨r,q,hv,hp'⟩:=ptr_part hp hoff (v_ptr hx)
 refine a1L hM (v:=.pointer (some ⟨r,q + i.nat * u.sz,none⟩)) ?_ (ok_ptr hp')
 rw [exec_indexAddr ho,hv,v_int hy]
 have:=run_indexAt_arr ht hi c.w r q
 simp [this]
theorem law_indexAddr_barr (hM:Mem base G0 own0 c) {id:TypeId} {x y:Operand} (ho:o.op = .indexAddr id x y) {n:Nat} {u:Ty} (ht:TOk P (.arr n u) id) {k:IntKind} {i:I k} (hi:inB i n = true) {z:(Ty.arr n u).D}
  (hx:VOk c (.bptr (.arr n u) z) (a.eval x)) (hy:VOk c (.val (.int k) i) (a.eval y)):OpRes P base G0 own0 o a c (.bptr u (Arr.sel u.zero n z i.nat)) []:=by
 obtain ⟨cs,⟨ad,ds,rfl,hsp,hG,he,hc⟩,hv⟩:=hx
 obtain ⟨r,q,spot⟩:=ad
 simp only at hsp hc hG
 subst hsp
 have hsel:=EncArr_sel (fun x cs=>Enc_len u x cs) u.zero n z ds i.nat (inB_iff hi).2.2.1 he
 refine a1L hM (v:=.pointer (some ⟨r,q + i.nat * u.sz,none⟩)) ?_ ⟨_,⟨⟨r,q + i.nat * u.sz,none⟩,_,rfl,rfl,hG,hsel,?_⟩,rfl⟩
 ·
  have hv:a.eval x = .pointer (some ⟨r,q,none⟩):=hv
  rw [exec_indexAddr ho,hv,v_int hy]
  have:=run_indexAt_arr ht hi c.w r q
  simp [this]
 ·
  intro j d hj
  rw [List.getElem?_take] at hj
  split at hj
  ·
   rw [List.getElem?_drop] at hj
   have:=hc _ _ hj
   rw [← Nat.add_assoc] at this
   exact this
  ·
   cases hj
theorem law_indexAddr_whole (hM:Mem base G0 own0 c) {id:TypeId} {x y:Operand} (ho:o.op = .indexAddr id x y) {u:Ty} (ht:TOk P (.sl u) id) {k:IntKind} {i:I k} {b:Nat} {l:List u.D} (hb:a0K c.H b = .row u l) (hi:inB i l.length = true)
  (hx:VOk c (.whole b) (a.eval x)) (hy:VOk c (.val (.int k) i) (a.eval y)):OpRes P base G0 own0 o a c (.ptr b [.idx i.nat]) []:=by
 obtain ⟨cs,⟨v,rfl,_,hw⟩,hv⟩:=hx
 have hB:=hM.blk b
 unfold WholeOk at hw
 unfold BlkOk at hB
 simp only [hb] at hw hB
 obtain ⟨hlim,e,xs,hown,hx'⟩:=hB
 have hil:=(inB_iff hi).2.2.1
 rcases own_cells hown with ⟨e1,e2,_⟩ | ⟨g,cap,cur,e1,e2,e3,e4,e5,e6,e7⟩
 ·
  omega
 ·
  have hv:a.eval x = v:=hv
  refine a1L hM (v:=.pointer (some ⟨g,0 + i.nat * u.sz,none⟩)) ?_ (ok_ptr ?_)
  ·
   rw [exec_indexAddr ho,hv,hw,e1,v_int hy]
   have:=run_indexAt_sl ht hi c.w g 0 cap
   simp only [Sem.run_bind,this,Result.andThen_ok,Sem.run_pure]
  ·
   unfold PtrOk
   simp only [hb]
   exact ⟨g,cap,i.nat,[],0,u,e1,rfl,hil,by cases u <;> rfl,by simp⟩
theorem law_indexAddr_row (hM:Mem base G0 own0 c) {id:TypeId} {x y:Operand} (ho:o.op = .indexAddr id x y) {u:Ty} (ht:TOk P (.sl u) id) {k:IntKind} {i:I k} {b lo n:Nat} {l:List u.D} (hb:a0K c.H b = .row u l) (hi:inB i n = true)
  (hx:VOk c (.row b lo n) (a.eval x)) (hy:VOk c (.val (.int k) i) (a.eval y)):OpRes P base G0 own0 o a c (.ptr b [.idx (lo + i.nat)]) []:=by
 obtain ⟨cs,⟨v,rfl,_,hw⟩,hv⟩:=hx
 unfold RowOk at hw
 simp only [hb] at hw
 have hil:=(inB_iff hi).2.2.1
 obtain ⟨hle,⟨h0,_⟩ | ⟨r,cap,cap',e1,rfl,hn⟩⟩:=hw
 ·
  omega
 ·
  have hv:a.eval x = _:=hv
  refine a1L hM (v:=.pointer (some ⟨r,lo * u.sz + i.nat * u.sz,none⟩)) ?_ (ok_ptr ?_)
  ·
   rw [exec_indexAddr ho,hv,v_int hy]
   have:=run_indexAt_sl ht hi c.w r (lo * u.sz) cap'
   simp only [List.headD_cons,mkV,isAggPV,Sem.run_bind,this,Result.andThen_ok,Sem.run_pure]
  ·
   unfold PtrOk
   simp only [hb]
   exact ⟨r,cap,lo + i.nat,[],0,u,e1,rfl,by omega,by cases u <;> rfl,by simp [Nat.add_mul]⟩
theorem law_indexAddr_val (hM:Mem base G0 own0 c) {id:TypeId} {x y:Operand} (ho:o.op = .indexAddr id x y) {u:Ty} (ht:TOk P (.sl u) id) {k:IntKind} {i:I k} {l:List u.D} (hi:inB i l.length = true)
  (hx:VOk c (.val (.sl u) l) (a.eval x)) (hy:VOk c (.val (.int k) i) (a.eval y)):OpRes P base G0 own0 o a c (.bptr u (rdL u.zero l i.nat)) []:=by
 obtain ⟨cs,⟨ad,cap,rfl,hcap,hlim,hr⟩,hv⟩:=hx
 have hil:=(inB_iff hi).2.2.1
 rcases hr with hr | ⟨⟨r,q,spot⟩,rfl,hsp,hG,hrow⟩
 ·
  have hr:l = []:=hr
  subst hr; simp at hil
 ·
  simp only at hsp hG hrow
  subst hsp
  obtain ⟨ds,hd,hc⟩:=hrow i.nat _ (rdL_get u.zero l i.nat hil)
  have hv:a.eval x = .slice (some ⟨r,q,none⟩) l.length cap:=hv
  refine a1L hM (v:=.pointer (some ⟨r,q + i.nat * u.sz,none⟩)) ?_ ⟨_,⟨⟨r,q + i.nat * u.sz,none⟩,ds,rfl,rfl,hG,hd,hc⟩,rfl⟩
  rw [exec_indexAddr ho,hv,v_int hy]
  have:=run_indexAt_sl ht hi c.w r q cap
  simp only [Sem.run_bind,this,Result.andThen_ok,Sem.run_pure]
theorem law_field (hM:Mem base G0 own0 c) {id:TypeId} {x:Operand} {f:Nat} (ho:o.op = .field id x f) {t:Ty} (ht:TOk P t id) {off:Nat} {u:Ty} (hoff:offTy t [.fld f] = some (off,u)) {px v:PV} (hf:fits px t = true) (hg:getPath px [.fld f] = some v)
  (hx:VOk c px (a.eval x)):OpRes P base G0 own0 o a c v []:=by
 obtain ⟨cs,hc,hv,hl⟩:=cells_vok hx hf
 obtain ⟨hf',hc'⟩:=getPath_ok px t cs _ off u v hc hf hoff hg
 obtain ⟨fs,fd,hu,hfd,hfo,hok⟩:=ht.field hoff
 have hagg:t.isAgg = true:=by cases t <;> first | rfl | (simp [offTy] at hoff)
 refine a1L hM (v:=mkV u.isAgg ((cs.drop off).take u.sz)) ?_ (vok_cells hc' hf')
 have hp:=run_part hok c.w cs _ off rfl (cells_len _ _ _ hc' hf')
 rw [hagg] at hv
 simp only [mkV] at hv
 simp only [execOp,ho,hv,Instr.field,Sem.run_bind,run_underlying hu,Result.andThen_ok,hfd,asAgg,Sem.run_pure,hfo,hp]
theorem law_index_arr (hM:Mem base G0 own0 c) {id:TypeId} {x y:Operand} (ho:o.op = .index id x y) {n:Nat} {u:Ty} (ht:TOk P (.arr n u) id) {k:IntKind} {i:I k} (hi:inB i n = true) {z:(Ty.arr n u).D}
  (hx:VOk c (.val (.arr n u) z) (a.eval x)) (hy:VOk c (.val (.int k) i) (a.eval y)):OpRes P base G0 own0 o a c (.val u (Arr.sel u.zero n z i.nat)) []:=by
 obtain ⟨cs,hc,hv⟩:=hx
 have hsel:=EncArr_sel (fun x cs=>Enc_len u x cs) u.zero n z cs i.nat (inB_iff hi).2.2.1 hc
 obtain ⟨_,e,hu,he⟩:=ht
 obtain ⟨h0,h1,_,h2⟩:=inB_iff hi
 refine a1L hM (v:=mkV u.isAgg _) ?_ ⟨_,hsel,rfl⟩
 have hp:=run_part he c.w cs _ (i.nat * u.sz) rfl (Enc_len _ _ _ hsel)
 have hv:a.eval x = .agg cs.toArray:=hv
 simp only [execOp,ho,hv,v_int hy,Instr.index,Sem.run_bind,asIntOf,Sem.run_pure,Result.andThen_ok,run_underlying hu,Sem.run_ite,h0,h1,and_self,if_true,he.run_size]
 have:i.val.toNat = i.nat:=rfl
 rw [this,hp]
 rfl
end
end Sym

/- The laws of single operations, eighth part: slices taken, made, appended to; lengths. -/
namespace Sym
open Go
section
variable {P:Program} {base:World} {G0 own0:Nat→Prop} {o:Oper} {a:Act} {c:Cx}
theorem tupAt_ok:∀ (p:PV) (i:Nat) (vs:List Value) (u:PV),TupOk c p vs→tupAt p i = some u→∃ v,vs[i]? = some v∧VOk c u v:=by
 intro p
 induction p with
 | pair x r _ ihr =>
  intro i vs u h hu
  obtain ⟨cs,vs',rfl,h1,h2⟩:=h
  cases i with
  | zero =>
   simp only [tupAt,Option.some.injEq] at hu
   subst hu
   refine ⟨_,rfl,?_⟩
   cases x <;> first | exact h1.elim | exact ⟨cs,h1,rfl⟩
  | succ i=>exact ihr i vs' u h2 hu
 | _=>intro i vs u h hu; simp [tupAt] at hu
theorem law_extract (hM:Mem base G0 own0 c) {x:Operand} {i:Nat} (ho:o.op = .extract x i) {p u:PV} (hx:VOk c (.tup p) (a.eval x)) (hu:tupAt p i = some u):OpRes P base G0 own0 o a c u []:=by
 obtain ⟨vs,hv,ht⟩:=hx
 obtain ⟨v,hvi,hok⟩:=tupAt_ok p i vs u ht hu
 refine a1L hM (v:=v) ?_ hok
 simp [execOp,ho,hv,Instr.extract,hvi]
theorem ofNat_val {n:Nat} (h:n ≤ LIM):(I.ofNat .i64 n).val = n:=by
 show IntKind.i64.wrap n = n
 refine wrap_eq_of_range ⟨?_,?_⟩ <;> simp only [IntKind.min,IntKind.max,IntKind.bits,IntKind.signed,LIM] at * <;> simp at * <;> omega
theorem lenPV_ok (hM:Mem base G0 own0 c) {x:PV} {n:Nat} (hl:lenPV c.H x = some n) {v:Value} (hv:VOk c x v) :
  n ≤ LIM∧((∃ a cap,v = .slice a n cap∧n ≤ cap∧∀ t,x ≠ .val .str t) ∨ ∃ l,x = .val .str l∧v = .string (bytesOf l)∧(show List (I .u8) from l).length = n):=by
 cases x with
 | nils =>
  simp only [lenPV,Option.some.injEq] at hl
  subst hl
  obtain ⟨cs,h1,h2⟩:=hv
  simp only [a1H] at h1
  subst h1
  exact ⟨Nat.zero_le _,.inl ⟨none,0,h2,Nat.le_refl _,by simp⟩⟩
 | val t y =>
  cases t with
  | sl t =>
   simp only [lenPV,Option.some.injEq] at hl
   subst hl
   obtain ⟨cs,⟨ad,cap,rfl,hcap,hlim,hr⟩,hv⟩:=hv
   exact ⟨hlim,.inl ⟨ad,cap,hv,hcap,by simp⟩⟩
  | str =>
   simp only [lenPV,Option.some.injEq] at hl
   subst hl
   obtain ⟨cs,⟨rfl,hlim⟩,hv⟩:=hv
   exact ⟨hlim,.inr ⟨y,rfl,hv,rfl⟩⟩
  | _=>simp [lenPV] at hl
 | whole b =>
  obtain ⟨cs,⟨u,rfl,_,hw⟩,hv⟩:=hv
  have hB:=hM.blk b
  simp only [lenPV] at hl
  unfold WholeOk at hw
  unfold BlkOk at hB
  cases hb:a0K c.H b with
  | row t l =>
   simp only [hb,Option.some.injEq,a1I] at hl hw hB
   subst hl
   obtain ⟨hlim,e,xs,hown,_⟩:=hB
   have hv:v = u:=hv
   rcases own_cells hown with ⟨e1,e2,_⟩ | ⟨g,cap,cur,e1,e2,e3,_⟩
   ·
    exact ⟨hlim,.inl ⟨none,0,by rw [hv,hw,e1,e2],by omega,by simp⟩⟩
   ·
    exact ⟨hlim,.inl ⟨_,cap,by rw [hv,hw,e1],e3,by simp⟩⟩
  | _=>simp [hb] at hl
 | row b lo m =>
  obtain ⟨cs,⟨u,rfl,_,hw⟩,hv⟩:=hv
  have hB:=hM.blk b
  simp only [lenPV] at hl
  unfold RowOk at hw
  unfold BlkOk at hB
  cases hb:a0K c.H b with
  | row t l =>
   simp only [hb,Option.some.injEq] at hl hw hB
   subst hl
   have hv:v = u:=hv
   obtain ⟨hle,⟨rfl,ad,cap,rfl⟩ | ⟨r,cap,cap',_,rfl,hn⟩⟩:=hw
   ·
    exact ⟨Nat.zero_le _,.inl ⟨ad,cap,hv,Nat.zero_le _,by simp⟩⟩
   ·
    exact ⟨by have:=hB.1; omega,.inl ⟨_,cap',hv,hn,by simp⟩⟩
  | _=>simp [hb] at hl
 | aview b p lo m =>
  obtain ⟨cs,⟨u,rfl,_,hw⟩,hv⟩:=hv
  simp only [lenPV] at hl
  unfold AviewOk at hw
  cases hb:a0K c.H b with
  | box t l =>
   simp only [hb,Option.some.injEq] at hl hw
   subst hl
   have hv:v = u:=hv
   obtain ⟨r,off,k,t',_,_,hle,hlim,⟨rfl,ad,cap,rfl⟩ | ⟨cap,rfl,hn,_⟩⟩:=hw
   ·
    exact ⟨Nat.zero_le _,.inl ⟨ad,cap,hv,Nat.zero_le _,by simp⟩⟩
   ·
    exact ⟨by omega,.inl ⟨_,cap,hv,hn,by simp⟩⟩
  | _=>simp [hb] at hl
 | _=>simp [lenPV] at hl
theorem inB'_iff {k:IntKind} {i:I k} {n:Nat} (h:inB' i n = true):0 ≤ i.val∧i.val ≤ n∧i.nat ≤ n∧i.val = i.nat:=by
 simp only [inB',Bool.and_eq_true,decide_eq_true_eq] at h
 unfold I.nat
 omega
theorem run_bound {k:IntKind} {i:I k} {n m:Nat} (h:inB' i n = true) (hm:n ≤ m) (code:BoundsCode) (w:World):(Instr.sliceBound (.int k i.val) m code).run P w = .ok i.nat w:=by
 obtain ⟨h0,h1,_,h2⟩:=inB'_iff h
 unfold Instr.sliceBound
 simp only [asIntOf,Sem.run_bind,Sem.run_pure,Result.andThen_ok]
 rw [if_pos ⟨h0,by omega⟩]
 rfl
theorem run_bounds (lo hi:Option Operand) (bs:List PV) (ha:All2 (VOk c) bs (lo.toList.map a.eval ++ hi.toList.map a.eval)) {on:Option Nat} {n:Nat} {b1 b2:Bool × Nat} (h:slcBounds on lo.isSome hi.isSome bs = some (n,b1,b2)) (h1:b1.1 = true) (h2:b2.1 = true)
  (isS:Bool) (cap:Nat) (hcap:n ≤ cap) (w:World):(Instr.sliceBounds isS n cap (lo.map a.eval) (hi.map a.eval) none).run P w = .ok (b1.2,b2.2,cap) w∧b1.2 ≤ b2.2∧b2.2 ≤ n∧on = some n:=by
 unfold slcBounds at h
 cases on with
 | none=>cases h
 | some m =>
  simp only at h
  split at h
  ·
   rename_i e1 e2
   simp only [Option.some.injEq,Prod.mk.injEq] at h
   obtain ⟨rfl,rfl,rfl⟩:=h
   cases lo <;> cases hi <;> simp at e1 e2
   exact ⟨by simp [Instr.sliceBounds],Nat.zero_le _,Nat.le_refl _,rfl⟩
  ·
   rename_i k i e1 e2
   simp only [Option.some.injEq,Prod.mk.injEq] at h
   obtain ⟨rfl,rfl,rfl⟩:=h
   cases lo <;> cases hi <;> simp at e1 e2
   have hv:=v_int ha.1
   have hb:=run_bound (P:=P) h1 (Nat.le_refl _) .sliceB w
   exact ⟨by simp [Instr.sliceBounds,hv,hb],(inB'_iff h1).2.2.1,Nat.le_refl _,rfl⟩
  ·
   rename_i k j e1 e2
   simp only [Option.some.injEq,Prod.mk.injEq] at h
   obtain ⟨rfl,rfl,rfl⟩:=h
   cases lo <;> cases hi <;> simp at e1 e2
   have hv:=v_int ha.1
   have hb:=run_bound (P:=P) h2 hcap (if isS then .sliceAcap else .sliceAlen) w
   exact ⟨by simp [Instr.sliceBounds,hv,hb],Nat.zero_le _,(inB'_iff h2).2.2.1,rfl⟩
  ·
   rename_i k i l j e1 e2
   simp only [Option.some.injEq,Prod.mk.injEq] at h
   obtain ⟨rfl,rfl,rfl⟩:=h
   cases lo <;> cases hi <;> simp at e1 e2
   have hv:=v_int ha.1
   have hv':=v_int ha.2.1
   have hb:=run_bound (P:=P) h1 (Nat.le_refl _) .sliceB w
   have hb':=run_bound (P:=P) h2 hcap (if isS then .sliceAcap else .sliceAlen) w
   exact ⟨by simp [Instr.sliceBounds,hv,hv',hb,hb'],(inB'_iff h1).2.2.1,(inB'_iff h2).2.2.1,rfl⟩
  ·
   cases h
theorem exec_slice {id:TypeId} {x:Operand} {lo hi:Option Operand} (ho:o.op = .slice id x lo hi none):execOp a.eval o = (do pure (.value (← Instr.sliceAt id (a.eval x) (lo.map a.eval) (hi.map a.eval) none))):=by
 simp only [execOp,ho]; rfl
theorem run_sliceAt_sl {t:Ty} {id:TypeId} (h:TOk P (.sl t) id) (ad:Option Addr) (n cap l hh:Nat) (lo hi:Option Value) (w:World) (hb:(Instr.sliceBounds true n cap lo hi none).run P w = .ok (l,hh,cap) w) :
  (Instr.sliceAt id (.slice ad n cap) lo hi none).run P w = .ok (.slice (if cap = l then ad else ad.map (·.add (l * t.sz))) (hh - l) (cap - l)) w:=by
 obtain ⟨_,e,hu,he⟩:=h
 unfold Instr.sliceAt
 rw [Sem.run_bind,run_underlying hu,Result.andThen_ok]
 unfold Instr.slice
 simp only [Sem.run_bind,run_underlying hu,Result.andThen_ok,hb,he.run_size,Sem.run_pure]
theorem law_slice_val (hM:Mem base G0 own0 c) {id:TypeId} {x:Operand} {lo hi:Option Operand} (ho:o.op = .slice id x lo hi none) {t:Ty} (ht:TOk P (.sl t) id) {bs:List PV} (ha:All2 (VOk c) bs (lo.toList.map a.eval ++ hi.toList.map a.eval))
  {y:List t.D} {n:Nat} {b1 b2:Bool × Nat} (hb:slcBounds (lenPV c.H (.val (.sl t) y)) lo.isSome hi.isSome bs = some (n,b1,b2)) (h1:b1.1 = true) (h2:b2.1 = true) (hx:VOk c (.val (.sl t) y) (a.eval x)) :
  OpRes P base G0 own0 o a c (.val (.sl t) ((y.drop b1.2).take (b2.2 - b1.2))) []:=by
 obtain ⟨cs,⟨ad,cap,rfl,hcap,hlim,hr⟩,hv⟩:=hx
 have hn:=(run_bounds (P:=P) lo hi bs ha hb h1 h2 true n (Nat.le_refl _) c.w).2.2.2
 simp only [lenPV,Option.some.injEq] at hn
 have hcap:y.length ≤ cap:=hcap
 have hlim:y.length ≤ LIM:=hlim
 have hn:y.length = n:=hn
 obtain ⟨hr1,hle,hle',_⟩:=run_bounds (P:=P) lo hi bs ha hb h1 h2 true cap (by omega) c.w
 have hv:a.eval x = .slice ad y.length cap:=hv
 have hlen:((y.drop b1.2).take (b2.2 - b1.2)).length = b2.2 - b1.2:=by simp; omega
 refine a1L hM (v:=.slice (if cap = b1.2 then ad else ad.map (·.add (b1.2 * t.sz))) (b2.2 - b1.2) (cap - b1.2)) ?_ ⟨[_],⟨_,cap - b1.2,by show _ = [Value.slice _ ((y.drop b1.2).take (b2.2 - b1.2)).length _]; rw [hlen],by show ((y.drop b1.2).take (b2.2 - b1.2)).length ≤ _; rw [hlen]; omega,by show ((y.drop b1.2).take (b2.2 - b1.2)).length ≤ _; rw [hlen]; omega,?_⟩,rfl⟩
 ·
  rw [exec_slice ho,hv]
  have:=run_sliceAt_sl ht ad y.length cap b1.2 b2.2 _ _ c.w (by rw [hn]; exact hr1)
  simp only [Sem.run_bind,this,Result.andThen_ok,Sem.run_pure]
 ·
  by_cases h0:b2.2 - b1.2 = 0
  ·
   left; exact List.eq_nil_of_length_eq_zero (by rw [hlen]; exact h0)
  ·
   right
   rcases hr with hr | ⟨⟨r,q,spot⟩,rfl,hsp,hG,hrow⟩
   ·
    have hr:y = []:=hr
    subst hr; simp at hn; omega
   ·
    simp only at hsp hG hrow
    subst hsp
    refine ⟨⟨r,q + b1.2 * t.sz,none⟩,by rw [if_neg (by omega)]; simp [add_lit],rfl,hG,rowAt_sub hrow⟩
theorem law_slice_whole (hM:Mem base G0 own0 c) {id:TypeId} {x:Operand} {lo hi:Option Operand} (ho:o.op = .slice id x lo hi none) {t:Ty} (ht:TOk P (.sl t) id) {bs:List PV} (ha:All2 (VOk c) bs (lo.toList.map a.eval ++ hi.toList.map a.eval))
  {b:Nat} {l:List t.D} (hbl:a0K c.H b = .row t l) {n:Nat} {b1 b2:Bool × Nat} (hb:slcBounds (lenPV c.H (.whole b)) lo.isSome hi.isSome bs = some (n,b1,b2)) (h1:b1.1 = true) (h2:b2.1 = true) (hx:VOk c (.whole b) (a.eval x)) :
  OpRes P base G0 own0 o a c (.row b b1.2 (b2.2 - b1.2)) []:=by
 obtain ⟨cs,⟨u,rfl,_,hw⟩,hv⟩:=hx
 have hB:=hM.blk b
 unfold WholeOk at hw
 unfold BlkOk at hB
 simp only [hbl] at hw hB
 obtain ⟨hlim,e,xs,hown,_⟩:=hB
 have hn:=(run_bounds (P:=P) lo hi bs ha hb h1 h2 true n (Nat.le_refl _) c.w).2.2.2
 simp only [lenPV,hbl,Option.some.injEq,a1I] at hn
 have hv:a.eval x = u:=hv
 have fin:∀ (ad:Option Addr) (cap:Nat),a.eval x = .slice ad l.length cap→l.length ≤ cap→(b2.2 - b1.2 ≠ 0→∃ r,ad = some ⟨r,0,none⟩∧c.ρ b = .slice (some ⟨r,0,none⟩) l.length cap)→OpRes P base G0 own0 o a c (.row b b1.2 (b2.2 - b1.2)) []:=by
  intro ad cap hva hcap hne
  obtain ⟨hr1,hle,hle',_⟩:=run_bounds (P:=P) lo hi bs ha hb h1 h2 true cap (by omega) c.w
  refine a1L hM (v:=.slice (if cap = b1.2 then ad else ad.map (·.add (b1.2 * t.sz))) (b2.2 - b1.2) (cap - b1.2)) ?_ ⟨[_],⟨_,rfl,rfl,?_⟩,rfl⟩
  ·
   rw [exec_slice ho,hva]
   have:=run_sliceAt_sl ht ad l.length cap b1.2 b2.2 _ _ c.w (by rw [hn]; exact hr1)
   simp only [Sem.run_bind,this,Result.andThen_ok,Sem.run_pure]
  ·
   unfold RowOk
   simp only [hbl]
   refine ⟨by omega,?_⟩
   by_cases h0:b2.2 - b1.2 = 0
   ·
    left; exact ⟨h0,_,_,by rw [h0]⟩
   ·
    right
    obtain ⟨r,rfl,hρ⟩:=hne h0
    exact ⟨r,cap,cap - b1.2,hρ,by rw [if_neg (by omega)]; simp [add_lit],by omega⟩
 rcases own_cells hown with ⟨e1,e2,_⟩ | ⟨g,cap,cur,e1,e2,e3,_⟩
 ·
  obtain ⟨_,hle,hle',_⟩:=run_bounds (P:=P) lo hi bs ha hb h1 h2 true n (Nat.le_refl _) c.w
  exact fin none 0 (by rw [hv,hw,e1,e2]) (by omega) (fun h=>by omega)
 ·
  exact fin _ cap (by rw [hv,hw,e1]) e3 (fun _=>⟨g,rfl,e1⟩)
theorem law_slice_row (hM:Mem base G0 own0 c) {id:TypeId} {x:Operand} {lo hi:Option Operand} (ho:o.op = .slice id x lo hi none) {t:Ty} (ht:TOk P (.sl t) id) {bs:List PV} (ha:All2 (VOk c) bs (lo.toList.map a.eval ++ hi.toList.map a.eval))
  {b s m:Nat} {l:List t.D} (hbl:a0K c.H b = .row t l) {n:Nat} {b1 b2:Bool × Nat} (hb:slcBounds (lenPV c.H (.row b s m)) lo.isSome hi.isSome bs = some (n,b1,b2)) (h1:b1.1 = true) (h2:b2.1 = true) (hx:VOk c (.row b s m) (a.eval x)) :
  OpRes P base G0 own0 o a c (.row b (s + b1.2) (b2.2 - b1.2)) []:=by
 obtain ⟨cs,⟨u,rfl,_,hw⟩,hv⟩:=hx
 unfold RowOk at hw
 simp only [hbl] at hw
 have hn:=(run_bounds (P:=P) lo hi bs ha hb h1 h2 true n (Nat.le_refl _) c.w).2.2.2
 simp only [lenPV,hbl,Option.some.injEq,a1I] at hn
 subst hn
 have hv:a.eval x = u:=hv
 obtain ⟨hlm,hw⟩:=hw
 have fin:∀ (ad:Option Addr) (cap:Nat),a.eval x = .slice ad m cap→m ≤ cap→(b2.2 - b1.2 ≠ 0→∃ r cap0,ad = some ⟨r,s * t.sz,none⟩∧c.ρ b = .slice (some ⟨r,0,none⟩) l.length cap0)→OpRes P base G0 own0 o a c (.row b (s + b1.2) (b2.2 - b1.2)) []:=by
  intro ad cap hva hcap hne
  obtain ⟨hr1,hle,hle',_⟩:=run_bounds (P:=P) lo hi bs ha hb h1 h2 true cap (by omega) c.w
  refine a1L hM (v:=.slice (if cap = b1.2 then ad else ad.map (·.add (b1.2 * t.sz))) (b2.2 - b1.2) (cap - b1.2)) ?_ ⟨[_],⟨_,rfl,rfl,?_⟩,rfl⟩
  ·
   rw [exec_slice ho,hva]
   have:=run_sliceAt_sl ht ad m cap b1.2 b2.2 _ _ c.w hr1
   simp only [Sem.run_bind,this,Result.andThen_ok,Sem.run_pure]
  ·
   unfold RowOk
   simp only [hbl]
   refine ⟨by omega,?_⟩
   by_cases h0:b2.2 - b1.2 = 0
   ·
    left; exact ⟨h0,_,_,by rw [h0]⟩
   ·
    right
    obtain ⟨r,cap0,rfl,hρ⟩:=hne h0
    exact ⟨r,cap0,cap - b1.2,hρ,by rw [if_neg (by omega)]; simp [add_lit,Nat.add_mul],by omega⟩
 obtain ⟨_,hle,hle',_⟩:=run_bounds (P:=P) lo hi bs ha hb h1 h2 true m (Nat.le_refl _) c.w
 rcases hw with ⟨rfl,ad,cap,rfl⟩ | ⟨r,cap,cap',e1,rfl,hn⟩
 ·
  exact fin ad cap hv (Nat.zero_le _) (fun h=>by omega)
 ·
  exact fin _ cap' hv hn (fun _=>⟨r,cap,rfl,e1⟩)
end
end Sym
