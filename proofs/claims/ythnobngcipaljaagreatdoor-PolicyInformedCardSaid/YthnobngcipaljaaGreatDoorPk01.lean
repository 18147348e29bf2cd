/- Part of the proof of a law. -/
import Derived.WalkKit
import Derived.WalkSpells
import Derived.WalkLawsBesides
import Derived.Lib.Hide
import Derived.Below
import Derived.Carry
import Derived.Test.YthnobngcipaljaaGreatDoorProg
import Derived.Deep.Slices
import Derived.Deep.Strs
import Derived.ProofKit
import Derived.SizedLaws
import Derived.Ground.Names7Prog
import Derived.Ground.SlsfProg
import Derived.Shelf.Spec.TrailingZeros
import Derived.Shelf.SlSortCmp.Whole1
import Derived.Shelf.SlGeneric
import Derived.Shelf.Strings.Builder1
import Derived.Shelf.Strings.Builder2
import Derived.Shelf.Strings.OnBuilder
import Derived.Shelf.Small.Bits
import Derived.Shelf.Small.Wraps
import Derived.Shelf.Strings.BuilderF
import Derived.Shelf.Strings.BuilderK
import Derived.Shelf.Strings.Builder2Cap
import Derived.Shelf.Strconv.Itoa0
import Derived.Shelf.Strconv.Itoa1
import Derived.Shelf.LaysM
import Derived.Shelf.Strconv.Itoa2
import Derived.Shelf.Strconv.Itoa3
import Derived.Shelf.Strings.Search1
import Derived.Shelf.Strings.Search2
import Derived.Shelf.Strings.Search3
import Derived.Shelf.Strings.Cut
import Derived.Shelf.Strings.Count
import Derived.Shelf.Strings.Shaped
import Derived.Shelf.Strings.Split
import Derived.Shelf.Unicode.DecodeSlow
import Derived.Shelf.Strings.BuilderCap
import Derived.Shelf.Slices.Turned
import Derived.Ground.Names2Prog
import Derived.Shelf.Slices.Clone
import Derived.Shelf.Slices.SearchI
import Derived.Ground.SlgnProg
import Derived.Shelf.SlicesE.Clone
import Derived.Orders
import Derived.Laws.AppendOwn
import Derived.Deep.DeepMust
import Derived.Deep.Light
import Derived.Deep.Draws
import Derived.Laws.StructEq
import Derived.Deep.QuietTactic
import Derived.BigQuiet
set_option maxRecDepth 1000000
set_option maxHeartbeats 64000000
set_option linter.unusedVariables false
set_option linter.unusedSimpArgs false
set_option linter.constructorNameAsVariable false
open Go.Lib (hid)
namespace Go.Tw
open Go.RowKit
theorem gA {α:Type} (l:List α) (i:Nat):l.toArray[i]?=l[i]?:=by simp
theorem gB {α:Type} (a:α) (l:List α):(a :: l)[0]?=some a:=rfl
theorem gC {α:Type} (a:α) (l:List α) (i:Nat):(a :: l)[i + 1]?=l[i]?:=by simp
def Ext (w w':World):Prop:=Below w.heap.size w w'
theorem Ext.refl (w:World):Ext w w:=Below.refl _ _
theorem Ext.trans {a b c:World} (h:Ext a b) (k:Ext b c):Ext a c:=Below.trans h (Below.mono k h.size)
theorem Ext.drew {a b:World} (h:Ext a b):Ext a b.drew:=Below.drew h
theorem Ext.alloc {a b:World} (h:Ext a b) (o:Obj):Ext a (b.alloc o):=Below.alloc h h.size o
theorem Ext.below {a b:World} (h:Ext a b) {n:Nat} (hn:n <= a.heap.size):Below n a b:=Below.mono h hn
theorem Ext.cell {a b:World} (h:Ext a b) {p:Addr} {v:Value} (hc:a.cell? p=some v):b.cell? p=some v :=
 (Below.cell h (World.block_lt_of_cell? a p hc)).trans hc
theorem Ext.size {a b:World} (h:Ext a b):a.heap.size <= b.heap.size:=Below.size h
def ix (l:List Int) (k:Nat):Int:=l.getD k 0
theorem Q5g {l:List Int} {k:Nat} (h:k < l.length):ix l k=l[k]:=by simp [ix,h]
def Row (w:World) (v:Value) (n sz:Nat) (c:Nat -> Value):Prop :=
 ∃ A Qq,v=.slice A n Qq /\ n <= 17592186043904 /\ n <= Qq /\ ∀ j,j < n * sz -> ∃ b off,A=some ⟨b,off,none⟩ /\ w.cell? ⟨b,off + j,none⟩=some (c j)
theorem Row.ext {w w':World} {v:Value} {n sz:Nat} {c:Nat -> Value} (h:Row w v n sz c) (hx:Ext w w'):Row w' v n sz c:=by
 obtain ⟨A,Qq,hv,hn,Kq,hc⟩:=h;exact ⟨A,Qq,hv,hn,Kq,fun j hj=>let ⟨b,off,hA,h⟩:=hc j hj; ⟨b,off,hA,hx.cell h⟩⟩
def Rows {α:Type} (sz:Nat) (R:World -> (Nat -> Value) -> α -> Prop) (w:World) (v:Value) (l:List α):Prop :=
 ∃ c,Row w v l.length sz c /\ ∀ j (h:j < l.length),R w (fun i=>c (j * sz + i)) l[j]
theorem Rows.ext {α:Type} {sz:Nat} {R:World -> (Nat -> Value) -> α -> Prop} (hR:∀ w w' c x,Ext w w' -> R w c x -> R w' c x) {w w':World} {v:Value} {l:List α}
    (h:Rows sz R w v l) (hx:Ext w w'):Rows sz R w' v l:=by
 obtain ⟨c,h1,h2⟩:=h;exact ⟨c,h1.ext hx,fun j hj=>hR _ _ _ _ hx (h2 j hj)⟩
theorem Rows.nil {α:Type} (sz:Nat) (R:World -> (Nat -> Value) -> α -> Prop) (w:World):Rows sz R w (.slice none 0 0) [] :=
 ⟨fun _=>undef,⟨none,0,rfl,by simp,by simp,fun j hj=>by simp at hj⟩,fun j hj=>by simp at hj⟩
def Q0g:World -> Value -> List Int -> Prop:=Rows 1 fun _ c x=>c 0=.int .i64 x
def Q1v:World -> Value -> List Bool -> Prop:=Rows 1 fun _ c x=>c 0=.bool x
def Z7p:World -> Value -> List ByteArray -> Prop:=Rows 1 fun _ c x=>c 0=.string x
def Q3z:World -> Value -> List (List Int) -> Prop:=Rows 1 fun w c x=>Q0g w (c 0) x
theorem Q0g.ext {w w':World} {v:Value} {l:List Int} (h:Q0g w v l) (hx:Ext w w'):Q0g w' v l:=Rows.ext (fun _ _ _ _ _ h=>h) h hx
theorem Q1v.ext {w w':World} {v:Value} {l:List Bool} (h:Q1v w v l) (hx:Ext w w'):Q1v w' v l:=Rows.ext (fun _ _ _ _ _ h=>h) h hx
theorem Z7p.ext {w w':World} {v:Value} {l:List ByteArray} (h:Z7p w v l) (hx:Ext w w'):Z7p w' v l:=Rows.ext (fun _ _ _ _ _ h=>h) h hx
theorem Q3z.ext {w w':World} {v:Value} {l:List (List Int)} (h:Q3z w v l) (hx:Ext w w'):Q3z w' v l:=Rows.ext (fun _ _ _ _ hx h=>h.ext hx) h hx
theorem Q0g.opened {w:World} {v:Value} {l:List Int} (h:Q0g w v l) :
    ∃ A Qq,v=.slice A l.length Qq /\ l.length <= 17592186043904 /\ l.length <= Qq /\ ∀ k,k < l.length -> ∃ b off,A=some ⟨b,off,none⟩ /\ w.cell? ⟨b,off + k,none⟩=some (.int .i64 (ix l k)):=by
 obtain ⟨c,⟨A,Qq,hv,hn,Kq,hc⟩,h2⟩:=h;refine ⟨A,Qq,hv,hn,Kq,fun k hk=>?_⟩;obtain ⟨b,off,hA,h⟩:=hc k (by omega)
 refine ⟨b,off,hA,?_⟩;have:=h2 k hk;simp only [Nat.mul_one,Nat.add_zero] at this;rw [h,this,Q5g hk]
end Go.Tw
namespace Go.Tw
open Go.RowKit
structure Basic where
 name:ByteArray
 chance:Int
structure Y1z where
 name:ByteArray
 chance:Int
 members:List Int
structure Gate where
 kind:ByteArray
 need:Int
 inputs:List Int
structure Tree where
 basics:List Basic
 causes:List Y1z
 gates:List Gate
instance:Inhabited Basic:=⟨⟨⟨#[]⟩,0⟩⟩
instance:Inhabited Y1z:=⟨⟨⟨#[]⟩,0,[]⟩⟩
instance:Inhabited Gate:=⟨⟨⟨#[]⟩,0,[]⟩⟩
def Short (s:ByteArray):Prop:=s.size <= 140737488355328
def Y6x (_:World) (c:Nat -> Value) (x:Basic):Prop:=c 0=.string x.name /\ c 1=.int .i64 x.chance /\ Short x.name
def Y9q (w:World) (c:Nat -> Value) (x:Y1z):Prop:=c 0=.string x.name /\ c 1=.int .i64 x.chance /\ Q0g w (c 2) x.members /\ Short x.name
def J0z (w:World) (c:Nat -> Value) (x:Gate):Prop:=c 0=.string x.kind /\ c 1=.int .i64 x.need /\ Q0g w (c 2) x.inputs /\ Short x.kind
theorem Y6x.ext (w w':World) (c:Nat -> Value) (x:Basic) (_:Ext w w') (h:Y6x w c x):Y6x w' c x:=h
theorem Y9q.ext (w w':World) (c:Nat -> Value) (x:Y1z) (hx:Ext w w') (h:Y9q w c x):Y9q w' c x:=⟨h.1,h.2.1,h.2.2.1.ext hx,h.2.2.2⟩
theorem J0z.ext (w w':World) (c:Nat -> Value) (x:Gate) (hx:Ext w w') (h:J0z w c x):J0z w' c x:=⟨h.1,h.2.1,h.2.2.1.ext hx,h.2.2.2⟩
def X1b:World -> Value -> List Basic -> Prop:=Rows 2 Y6x
def X0q:World -> Value -> List Y1z -> Prop:=Rows 3 Y9q
def X5c:World -> Value -> List Gate -> Prop:=Rows 3 J0z
theorem X1b.ext {w w':World} {v:Value} {l:List Basic} (h:X1b w v l) (hx:Ext w w'):X1b w' v l:=Rows.ext Y6x.ext h hx
theorem X0q.ext {w w':World} {v:Value} {l:List Y1z} (h:X0q w v l) (hx:Ext w w'):X0q w' v l:=Rows.ext Y9q.ext h hx
theorem X5c.ext {w w':World} {v:Value} {l:List Gate} (h:X5c w v l) (hx:Ext w w'):X5c w' v l:=Rows.ext J0z.ext h hx
structure Y4p (w:World) (a b c:Value) (t:Tree):Prop where
 basics:X1b w a t.basics
 causes:X0q w b t.causes
 gates:X5c w c t.gates
theorem Y4p.ext {w w':World} {a b c:Value} {t:Tree} (h:Y4p w a b c t) (hx:Ext w w'):Y4p w' a b c t:=⟨h.basics.ext hx,h.causes.ext hx,h.gates.ext hx⟩
def IsTree (w:World) (v:Value) (t:Tree):Prop:=∃ a b c,v=.agg #[a,b,c] /\ Y4p w a b c t
theorem IsTree.ext {w w':World} {v:Value} {t:Tree} (h:IsTree w v t) (hx:Ext w w'):IsTree w' v t:=let ⟨a,b,c,hv,h3⟩:=h; ⟨a,b,c,hv,h3.ext hx⟩
def bName (l:List Basic) (k:Nat):ByteArray:=(l.getD k default).name
def Z0f (l:List Basic) (k:Nat):Int:=(l.getD k default).chance
def cName (l:List Y1z) (k:Nat):ByteArray:=(l.getD k default).name
def Z0n (l:List Y1z) (k:Nat):Int:=(l.getD k default).chance
def Q8q (l:List Y1z) (k:Nat):List Int:=(l.getD k default).members
def Z1m (l:List Gate) (k:Nat):ByteArray:=(l.getD k default).kind
def Z9q (l:List Gate) (k:Nat):Int:=(l.getD k default).need
def Q7u (l:List Gate) (k:Nat):List Int:=(l.getD k default).inputs
theorem Q1m {k:IntKind} {a b:Int} (h:a=b):Ending.returned (.int k a)=.returned (.int k b):=by rw [h]
theorem Q1b {a b:Bool} (h:a=b):Ending.returned (.bool a)=.returned (.bool b):=by rw [h]
def has (l:List Int) (x:Int):Bool:=l.contains x
theorem X8g (y:Int) (l:List Int) (x:Int):has (y :: l) x=(y == x || has l x):=by
 unfold has; rw [List.contains_cons,Bool.beq_comm]
theorem J0s {l:List Int} {x:Int}:has l x=true ↔ x ∈ l:=by simp [has]
theorem Q0u {α:Type} {l:List α} {k:Nat} (d:α) (h:k < l.length):l.getD k d=l[k]:=by simp [h]
theorem X1b.opened {w:World} {v:Value} {l:List Basic} (h:X1b w v l) :
    ∃ A Qq,v=.slice A l.length Qq /\ l.length <= 17592186043904 /\ l.length <= Qq /\ ∀ k,k < l.length -> ∃ b off,A=some ⟨b,off,none⟩ /\ b < w.heap.size /\
     w.cell? ⟨b,off + k * 2,none⟩=some (.string (bName l k)) /\ w.cell? ⟨b,off + k * 2 + 1,none⟩=some (.int .i64 (Z0f l k)) /\ Short (bName l k):=by
 obtain ⟨c,⟨A,Qq,hv,hn,Kq,hc⟩,h2⟩:=h;refine ⟨A,Qq,hv,hn,Kq,fun k hk=>?_⟩;obtain ⟨b,off,hA,h0⟩:=hc (k * 2) (by omega)
 obtain ⟨b',off',aj,h1⟩:=hc (k * 2 + 1) (by omega)
 rw [hA] at aj; cases aj;obtain ⟨e0,e1,e2⟩:=h2 k hk;simp only [Nat.add_zero] at e0 e1;refine ⟨b,off,hA,World.block_lt_of_cell? w _ h0,?_,?_,?_⟩
 . rw [h0,e0,bName,Q0u _ hk]
 . rw [Nat.add_assoc,h1,e1,Z0f,Q0u _ hk]
 . rw [bName,Q0u _ hk]; exact e2
theorem X0q.opened {w:World} {v:Value} {l:List Y1z} (h:X0q w v l) :
    ∃ A Qq,v=.slice A l.length Qq /\ l.length <= 17592186043904 /\ l.length <= Qq /\ ∀ k,k < l.length -> ∃ b off m,A=some ⟨b,off,none⟩ /\ b < w.heap.size /\
     w.cell? ⟨b,off + k * 3,none⟩=some (.string (cName l k)) /\ w.cell? ⟨b,off + k * 3 + 1,none⟩=some (.int .i64 (Z0n l k)) /\
     w.cell? ⟨b,off + k * 3 + 2,none⟩=some m /\ Q0g w m (Q8q l k) /\ Short (cName l k):=by
 obtain ⟨c,⟨A,Qq,hv,hn,Kq,hc⟩,h2⟩:=h;refine ⟨A,Qq,hv,hn,Kq,fun k hk=>?_⟩;obtain ⟨b,off,hA,h0⟩:=hc (k * 3) (by omega)
 obtain ⟨b',off',aj,h1⟩:=hc (k * 3 + 1) (by omega)
 rw [hA] at aj; cases aj;obtain ⟨b',off',aj,h3⟩:=hc (k * 3 + 2) (by omega)
 rw [hA] at aj; cases aj;obtain ⟨e0,e1,e2,e3⟩:=h2 k hk;simp only [Nat.add_zero] at e0 e1;refine ⟨b,off,c (k * 3 + 2),hA,World.block_lt_of_cell? w _ h0,?_,?_,?_,?_,?_⟩
 . rw [h0,e0,cName,Q0u _ hk]
 . rw [Nat.add_assoc,h1,e1,Z0n,Q0u _ hk]
 . rw [Nat.add_assoc,h3]
 . rw [Q8q,Q0u _ hk]; exact e2
 . rw [cName,Q0u _ hk]; exact e3
theorem X5c.opened {w:World} {v:Value} {l:List Gate} (h:X5c w v l) :
    ∃ A Qq,v=.slice A l.length Qq /\ l.length <= 17592186043904 /\ l.length <= Qq /\ ∀ k,k < l.length -> ∃ b off m,A=some ⟨b,off,none⟩ /\ b < w.heap.size /\
     w.cell? ⟨b,off + k * 3,none⟩=some (.string (Z1m l k)) /\ w.cell? ⟨b,off + k * 3 + 1,none⟩=some (.int .i64 (Z9q l k)) /\
     w.cell? ⟨b,off + k * 3 + 2,none⟩=some m /\ Q0g w m (Q7u l k) /\ Short (Z1m l k):=by
 obtain ⟨c,⟨A,Qq,hv,hn,Kq,hc⟩,h2⟩:=h;refine ⟨A,Qq,hv,hn,Kq,fun k hk=>?_⟩;obtain ⟨b,off,hA,h0⟩:=hc (k * 3) (by omega)
 obtain ⟨b',off',aj,h1⟩:=hc (k * 3 + 1) (by omega)
 rw [hA] at aj; cases aj;obtain ⟨b',off',aj,h3⟩:=hc (k * 3 + 2) (by omega)
 rw [hA] at aj; cases aj;obtain ⟨e0,e1,e2,e3⟩:=h2 k hk;simp only [Nat.add_zero] at e0 e1;refine ⟨b,off,c (k * 3 + 2),hA,World.block_lt_of_cell? w _ h0,?_,?_,?_,?_,?_⟩
 . rw [h0,e0,Z1m,Q0u _ hk]
 . rw [Nat.add_assoc,h1,e1,Z9q,Q0u _ hk]
 . rw [Nat.add_assoc,h3]
 . rw [Q7u,Q0u _ hk]; exact e2
 . rw [Z1m,Q0u _ hk]; exact e3
def bx (l:List Bool) (k:Nat):Bool:=l.getD k false
theorem Q1v.opened {w:World} {v:Value} {l:List Bool} (h:Q1v w v l) :
    ∃ A Qq,v=.slice A l.length Qq /\ l.length <= 17592186043904 /\ l.length <= Qq /\ ∀ k,k < l.length -> ∃ b off,A=some ⟨b,off,none⟩ /\ b < w.heap.size /\ w.cell? ⟨b,off + k,none⟩=some (.bool (bx l k)):=by
 obtain ⟨c,⟨A,Qq,hv,hn,Kq,hc⟩,h2⟩:=h;refine ⟨A,Qq,hv,hn,Kq,fun k hk=>?_⟩;obtain ⟨b,off,hA,h⟩:=hc k (by omega)
 refine ⟨b,off,hA,World.block_lt_of_cell? w _ h,?_⟩;have:=h2 k hk;simp only [Nat.mul_one,Nat.add_zero] at this;rw [h,this,bx,Q0u _ hk]
theorem str_eq {a b:ByteArray} (h:a=b):(a == b)=true:=by subst h; obtain ⟨⟨d⟩⟩:=a; show (Array.mk d == Array.mk d)=true; simp
theorem X3c {a b:ByteArray} (h:¬ a=b):(a == b)=false:=by
 obtain ⟨a⟩:=a; obtain ⟨b⟩:=b;show (a == b)=false;rw [beq_eq_false_iff_ne];exact fun e=>h (by rw [e])
theorem Ext.cells {a b:World} (h:Ext a b):∀ k o,k < a.heap.size -> b.cell? ⟨k,o,none⟩=a.cell? ⟨k,o,none⟩:=fun _ _ hk=>Below.cell (p:=⟨_,_,none⟩) h hk
end Go.Tw
namespace Go.Tw
def Q0o:List Int -> Int
 | []=>0
 | x :: l=>if x=0 then Q0o l else x
def Q0j (x a b:Int):Int:=if x < a ∨ b < x then 3 else 0
def Z7o:List Int -> Bool
 | x :: y :: l=>decide (x < y) && Z7o (y :: l)
 | _=>true
def K0r (l:List Int) (n:Int):Bool:=l.any fun x=>decide (x < 0 ∨ n <= x)
def Z3y (l:List Int) (n:Int):Int:=if K0r l n then 10 else if Z7o l then 0 else 11
def X5x (l:List Int) (n:Int):Int:=if l=[] then 12 else Z3y l n
def Q2d (c:UInt8):Bool:=(decide (97 <= c) && decide (c <= 122)) || (decide (65 <= c) && decide (c <= 90))
def Q4q (c:UInt8):Bool:=c == 95 || (decide (48 <= c) && decide (c <= 57))
def nameB (s:ByteArray):Bool:=match s.data.toList with
 | []=>false
 | c :: l=>Q2d c && l.all (fun c=>Q2d c || Q4q c) && decide (l.length < 24)
def J7h (s:ByteArray):Int:=if nameB s then 0 else 8
def K0q:ByteArray:=⟨#[97,110,100]⟩
def sOr:ByteArray:=⟨#[111,114]⟩
def J8t:ByteArray:=⟨#[118,111,116,101]⟩
namespace Tree
def size (t:Tree):Nat:=t.basics.length + t.causes.length
def nodes (t:Tree):Nat:=t.basics.length + t.gates.length
def nameAt (t:Tree) (i:Nat):ByteArray:=if i < t.basics.length then bName t.basics i else cName t.causes (i - t.basics.length)
def X3u (t:Tree) (i:Nat):Int:=if i < t.basics.length then Z0f t.basics i else Z0n t.causes (i - t.basics.length)
def J7r (t:Tree) (i:Nat):Bool:=(List.range i).any fun k=>t.nameAt k == t.nameAt i
def X8e (t:Tree) (i:Nat):Int :=
 Q0o [J7h (t.nameAt i),Q0j (t.X3u i) 0 16,if t.J7r i then 9 else 0,if i < t.basics.length then 0 else X5x (Q8q t.causes (i - t.basics.length)) t.basics.length]
end Tree
def K0j (s:ByteArray):Bool:=s == K0q || s == sOr || s == J8t
def J7f (kind:ByteArray) (need:Int) (n:Nat):Int:=if kind=J8t then Q0j need 1 n else Q0j need 0 0
def Z9v (kind:ByteArray) (need:Int) (inputs:List Int) (nodes:Int):Int :=
 Q0o [if K0j kind then 0 else 13,if 12 < inputs.length then 5 else 0,X5x inputs nodes,J7f kind need inputs.length]
namespace Tree
def X9i (t:Tree) (i:Nat):Int:=Z9v (Z1m t.gates i) (Z9q t.gates i) (Q7u t.gates i) ((t.basics.length:Int) + i)
def err (t:Tree):Int :=
 if t.basics.length=0 ∨ t.gates.length=0 then 12 else if 12 < t.size ∨ 32 < t.gates.length then 5 else
 Q0o ((List.range t.size).map t.X8e ++ (List.range t.gates.length).map t.X9i)
def J8m (t:Tree) (ev:Nat -> Bool) (i:Nat):Bool:=ev i || (List.range t.causes.length).any fun k=>ev (t.basics.length + k) && has (Q8q t.causes k) i
end Tree
def J4w (kind:ByteArray) (need:Int) (n:Nat):Int:=if kind=K0q then n else if kind=sOr then 1 else need
def failing (out:List Bool) (inputs:List Int):Nat:=inputs.countP fun x=>bx out x.toNat
def J9e (out:List Bool) (kind:ByteArray) (need:Int) (inputs:List Int):Bool:=decide (J4w kind need inputs.length <= failing out inputs)
namespace Tree
def Z8q (t:Tree) (ev:Nat -> Bool):List Bool:=(List.range t.basics.length).map (t.J8m ev)
def Q9k (t:Tree) (ev:Nat -> Bool):Nat -> List Bool
 | 0=>t.Z8q ev
 | n + 1=>t.Q9k ev n ++ [J9e (t.Q9k ev n) (Z1m t.gates n) (Z9q t.gates n) (Q7u t.gates n)]
def states (t:Tree) (ev:Nat -> Bool):List Bool:=t.Q9k ev t.gates.length
def fails (t:Tree) (ev:Nat -> Bool):Bool:=bx (t.states ev) (t.nodes - 1)
end Tree
def evL (l:List Int) (i:Nat):Bool:=has l i
def evN (s:Nat) (i:Nat):Bool:=s.testBit i
def bitsOf (s:Nat):List Int:=((List.range 16).filter (s.testBit ·)).map Int.ofNat
def others (n:Nat) (l:List Int):List Int:=((List.range n).map Int.ofNat).filter fun x=>!has l x
def without (l:List Int) (k:Nat):List Int:=l.take k ++ l.drop (k + 1)
namespace Tree
def J5b (t:Tree):List Int:=(List.range t.size).map t.X3u
def setB (t:Tree) (l:List Int) (paths:Bool):Bool:=if paths then !t.fails (evL (others t.size l)) else t.fails (evL l)
def J3q (t:Tree) (l:List Int) (paths:Bool):Bool:=t.setB l paths && !(List.range l.length).any fun k=>t.setB (without l k) paths
end Tree
def Q5k:List Int -> List Int -> Bool
 | x :: l,y :: m=>if x=y then Q5k l m else decide (x < y)
 | _,_=>false
def Q2f (a b:List Int):Bool:=if a.length=b.length then Q5k a b else decide (a.length < b.length)
def Q2b (l:List Int) (out:List (List Int)):Nat -> Nat
 | 0=>0
 | n + 1=>if Q2f l (out.getD n []) then Q2b l out n else n + 1
def Z4m (l:List Int) (out:List (List Int)):List (List Int):=out.take (Q2b l out out.length) ++ [l] ++ out.drop (Q2b l out out.length)
namespace Tree
def sets (t:Tree) (paths:Bool):List (List Int):=(List.range (2 ^ t.size)).foldl (fun out s=>if t.J3q (bitsOf s) paths then Z4m (bitsOf s) out else out) []
def single (t:Tree):List Int:=((List.range t.size).map Int.ofNat).filter fun x=>t.fails (evL [x])
end Tree
namespace Tree
end Tree
def factor (c:List Int) (s j:Nat):Int:=if s.testBit j then ix c j else 16 - ix c j
def J4p (c:List Int) (s:Nat):Nat -> Int
 | 0=>1
 | j + 1=>J4p c s j * factor c s j
def partOf (c:List Int) (s:Nat):Int:=J4p c s c.length
namespace Tree
def Q5l (t:Tree) (c:List Int):Nat -> Int
 | 0=>0
 | s + 1=>t.Q5l c s + if t.fails (evN s) then partOf c s else 0
def weight (t:Tree) (c:List Int):Int:=t.Q5l c (2 ^ t.size)
end Tree
structure Ratio where
 num:Int
 den:Int
deriving DecidableEq
def lowest (a b:Int):Ratio:=⟨a / (Int.gcd a b:Int),b / (Int.gcd a b:Int)⟩
end Go.Tw
namespace Go.Tw
open Go.RowKit
structure Mem where
 name:ByteArray
 weight:Int
 classes:List Int
 outside:List Int
 inflow:List Int
structure Q0b where
 limit:Int
 ships:List Int
 members:List Mem
structure Rul where
 classes:List Int
 close:Bool
structure Grp where
 members:List Int
 weight:Int
instance:Inhabited Mem:=⟨⟨⟨#[]⟩,0,[],[],[]⟩⟩
instance:Inhabited Rul:=⟨⟨[],false⟩⟩
instance:Inhabited Grp:=⟨⟨[],0⟩⟩
def J7y (w:World) (c:Nat -> Value) (x:Mem):Prop:=c 0=.string x.name /\ c 1=.int .i64 x.weight /\ Q0g w (c 2) x.classes /\ Q0g w (c 3) x.outside /\ Q0g w (c 4) x.inflow /\ Short x.name
def J7p (w:World) (c:Nat -> Value) (x:Rul):Prop:=Q0g w (c 0) x.classes /\ c 1=.bool x.close
def J8d (w:World) (c:Nat -> Value) (x:Grp):Prop:=Q0g w (c 0) x.members /\ c 1=.int .i64 x.weight
theorem J7y.ext (w w':World) (c:Nat -> Value) (x:Mem) (hx:Ext w w') (h:J7y w c x):J7y w' c x:=⟨h.1,h.2.1,h.2.2.1.ext hx,h.2.2.2.1.ext hx,h.2.2.2.2.1.ext hx,h.2.2.2.2.2⟩
theorem J7p.ext (w w':World) (c:Nat -> Value) (x:Rul) (hx:Ext w w') (h:J7p w c x):J7p w' c x:=⟨h.1.ext hx,h.2⟩
theorem J8d.ext (w w':World) (c:Nat -> Value) (x:Grp) (hx:Ext w w') (h:J8d w c x):J8d w' c x:=⟨h.1.ext hx,h.2⟩
def X0b:World -> Value -> List Mem -> Prop:=Rows 5 J7y
def Q1j:World -> Value -> List Rul -> Prop:=Rows 2 J7p
def Q5s:World -> Value -> List Grp -> Prop:=Rows 2 J8d
theorem X0b.ext {w w':World} {v:Value} {l:List Mem} (h:X0b w v l) (hx:Ext w w'):X0b w' v l:=Rows.ext J7y.ext h hx
theorem Q1j.ext {w w':World} {v:Value} {l:List Rul} (h:Q1j w v l) (hx:Ext w w'):Q1j w' v l:=Rows.ext J7p.ext h hx
theorem Q5s.ext {w w':World} {v:Value} {l:List Grp} (h:Q5s w v l) (hx:Ext w w'):Q5s w' v l:=Rows.ext J8d.ext h hx
structure Q3b (w:World) (a b:Value) (s:Q0b):Prop where
 ships:Q0g w a s.ships
 members:X0b w b s.members
theorem Q3b.ext {w w':World} {a b:Value} {s:Q0b} (h:Q3b w a b s) (hx:Ext w w'):Q3b w' a b s:=⟨h.ships.ext hx,h.members.ext hx⟩
def Q0i (w:World) (v:Value) (s:Q0b):Prop:=∃ a b,v=.agg #[.int .i64 s.limit,a,b] /\ Q3b w a b s
theorem Q0i.ext {w w':World} {v:Value} {s:Q0b} (h:Q0i w v s) (hx:Ext w w'):Q0i w' v s:=let ⟨a,b,hv,h2⟩:=h; ⟨a,b,hv,h2.ext hx⟩
def Q0l (w:World) (v:Value) (p:List Rul):Prop:=∃ a,v=.agg #[a] /\ Q1j w a p
theorem Q0l.ext {w w':World} {v:Value} {p:List Rul} (h:Q0l w v p) (hx:Ext w w'):Q0l w' v p:=let ⟨a,hv,h2⟩:=h; ⟨a,hv,h2.ext hx⟩
def Q1s (l:List Mem) (k:Nat):ByteArray:=(l.getD k default).name
def Q0n (l:List Mem) (k:Nat):Int:=(l.getD k default).weight
def Q0c (l:List Mem) (k:Nat):List Int:=(l.getD k default).classes
def Q1c (l:List Mem) (k:Nat):List Int:=(l.getD k default).outside
def Q1f (l:List Mem) (k:Nat):List Int:=(l.getD k default).inflow
def Q0m (l:List Rul) (k:Nat):List Int:=(l.getD k default).classes
def Q2h (l:List Rul) (k:Nat):Bool:=(l.getD k default).close
def Q6x (l:List Grp) (k:Nat):List Int:=(l.getD k default).members
def X0e (l:List Grp) (k:Nat):Int:=(l.getD k default).weight
theorem X0b.opened {w:World} {v:Value} {l:List Mem} (h:X0b w v l) :
    ∃ A Qq,v=.slice A l.length Qq /\ l.length <= 17592186043904 /\ l.length <= Qq /\ ∀ k,k < l.length -> ∃ b off x y z,A=some ⟨b,off,none⟩ /\ b < w.heap.size /\
     w.cell? ⟨b,off + k * 5,none⟩=some (.string (Q1s l k)) /\ w.cell? ⟨b,off + k * 5 + 1,none⟩=some (.int .i64 (Q0n l k)) /\
     w.cell? ⟨b,off + k * 5 + 2,none⟩=some x /\ w.cell? ⟨b,off + k * 5 + 3,none⟩=some y /\ w.cell? ⟨b,off + k * 5 + 4,none⟩=some z /\
     Q0g w x (Q0c l k) /\ Q0g w y (Q1c l k) /\ Q0g w z (Q1f l k) /\ Short (Q1s l k):=by
 obtain ⟨c,⟨A,Qq,hv,hn,Kq,hc⟩,h2⟩:=h;refine ⟨A,Qq,hv,hn,Kq,fun k hk=>?_⟩;obtain ⟨b,off,hA,h0⟩:=hc (k * 5) (by omega)
 obtain ⟨b',off',aj,h1⟩:=hc (k * 5 + 1) (by omega)
 rw [hA] at aj; cases aj;obtain ⟨b',off',aj,h3⟩:=hc (k * 5 + 2) (by omega)
 rw [hA] at aj; cases aj;obtain ⟨b',off',aj,h4⟩:=hc (k * 5 + 3) (by omega)
 rw [hA] at aj; cases aj;obtain ⟨b',off',aj,h5⟩:=hc (k * 5 + 4) (by omega)
 rw [hA] at aj; cases aj;obtain ⟨e0,e1,e2,e3,e4,e5⟩:=h2 k hk;simp only [Nat.add_zero] at e0 e1;refine ⟨b,off,c (k * 5 + 2),c (k * 5 + 3),c (k * 5 + 4),hA,World.block_lt_of_cell? w _ h0,?_,?_,?_,?_,?_,?_,?_,?_,?_⟩
 . rw [h0,e0,Q1s,Q0u _ hk]
 . rw [Nat.add_assoc,h1,e1,Q0n,Q0u _ hk]
 . rw [Nat.add_assoc,h3]
 . rw [Nat.add_assoc,h4]
 . rw [Nat.add_assoc,h5]
 . rw [Q0c,Q0u _ hk]; exact e2
 . rw [Q1c,Q0u _ hk]; exact e3
 . rw [Q1f,Q0u _ hk]; exact e4
 . rw [Q1s,Q0u _ hk]; exact e5
theorem Q1j.opened {w:World} {v:Value} {l:List Rul} (h:Q1j w v l) :
    ∃ A Qq,v=.slice A l.length Qq /\ l.length <= 17592186043904 /\ l.length <= Qq /\ ∀ k,k < l.length -> ∃ b off x,A=some ⟨b,off,none⟩ /\ b < w.heap.size /\
     w.cell? ⟨b,off + k * 2,none⟩=some x /\ w.cell? ⟨b,off + k * 2 + 1,none⟩=some (.bool (Q2h l k)) /\ Q0g w x (Q0m l k):=by
 obtain ⟨c,⟨A,Qq,hv,hn,Kq,hc⟩,h2⟩:=h;refine ⟨A,Qq,hv,hn,Kq,fun k hk=>?_⟩;obtain ⟨b,off,hA,h0⟩:=hc (k * 2) (by omega)
 obtain ⟨b',off',aj,h1⟩:=hc (k * 2 + 1) (by omega)
 rw [hA] at aj; cases aj;obtain ⟨e0,e1⟩:=h2 k hk;simp only [Nat.add_zero] at e0 e1;refine ⟨b,off,c (k * 2),hA,World.block_lt_of_cell? w _ h0,?_,?_,?_⟩
 . rw [h0]
 . rw [Nat.add_assoc,h1,e1,Q2h,Q0u _ hk]
 . rw [Q0m,Q0u _ hk]; exact e0
theorem Q5s.opened {w:World} {v:Value} {l:List Grp} (h:Q5s w v l) :
    ∃ A Qq,v=.slice A l.length Qq /\ l.length <= 17592186043904 /\ l.length <= Qq /\ ∀ k,k < l.length -> ∃ b off x,A=some ⟨b,off,none⟩ /\ b < w.heap.size /\
     w.cell? ⟨b,off + k * 2,none⟩=some x /\ w.cell? ⟨b,off + k * 2 + 1,none⟩=some (.int .i64 (X0e l k)) /\ Q0g w x (Q6x l k):=by
 obtain ⟨c,⟨A,Qq,hv,hn,Kq,hc⟩,h2⟩:=h;refine ⟨A,Qq,hv,hn,Kq,fun k hk=>?_⟩;obtain ⟨b,off,hA,h0⟩:=hc (k * 2) (by omega)
 obtain ⟨b',off',aj,h1⟩:=hc (k * 2 + 1) (by omega)
 rw [hA] at aj; cases aj;obtain ⟨e0,e1⟩:=h2 k hk;simp only [Nat.add_zero] at e0 e1;refine ⟨b,off,c (k * 2),hA,World.block_lt_of_cell? w _ h0,?_,?_,?_⟩
 . rw [h0]
 . rw [Nat.add_assoc,h1,e1,X0e,Q0u _ hk]
 . rw [Q6x,Q0u _ hk]; exact e0
end Go.Tw
namespace Go.Proofs
open Go.RowKit Go.Tw Go.ChangeShapes Go.WideShapes Go.Deep Tryz
section
variable {H:Type} {enc:TypeId × Value -> H} {W:World}
def X7f (t:TypeId) (d:DataW H):Prop:=∀ x ∈ d.weights prog t,x <= 140737488351232
theorem Y2x (b off n:Nat):(⟨b,off,none⟩:Addr).add n=⟨b,off + n,none⟩:=by
 unfold Addr.add
 split
 . simp_all
 . rfl
theorem X7j {α:Type} [Inhabited α] {t e:TypeId} {k bts fuel:Nat} {v:Value} {y:DataW H × List MemPlace} {R:World -> (Nat -> Value) -> α -> Prop} (ht:prog.underlying t=some (.slice e)) (hc:prog.cellsOf e=k) (hk:0 < k) (hb:prog.bytesOf e=bts) (h8:8 <= bts)
    (nX:∀ (cs:List Value) (y:DataW H × List MemPlace) (n:Nat),cs.length=k -> DataW.trod enc prog W 0 (fun _=>true) true n e cs=some y -> X7f e y.1 -> ∃ x:α,R W (fun i=>cs.getD i undef) x)
    (Fg:∀ (w:World) (c c':Nat -> Value) (x:α),(∀ i,i < k -> c i=c' i) -> R w c x -> R w c' x)
    (h:DataW.trod enc prog W 0 (fun _=>true) true fuel t [v]=some y) (hw:X7f t y.1):∃ l:List α,Go.Tw.Rows k R W v l:=by
 rcases open_slice ht h with ⟨Dk,_⟩ | ⟨a,len,Qq,m,n,D,Pl,Dk,_,vj,_,hm,rfl,hx⟩
 . obtain rfl:v=.slice none 0 0:=by simpa using Dk
   exact ⟨[],Go.Tw.Rows.nil _ _ _⟩
 . obtain rfl:v=.slice (some a) len Qq:=by simpa using Dk
   simp only [if_true] at hm;subst hm;rw [hc] at hx;have Cy:(len + (m - len)) * bts <= 140737488351232:=by
    have:=hw ((((List.range len).map D).length + ((List.range (m - len)).map fun j=>D (len + j)).length) * prog.bytesOf e) (by simp [DataW.weights,ht])
    simpa [hb] using this
   have dp:m * 8 <= 140737488351232:=by
    have h1:m=len + (m - len):=by omega
    rw [<- h1] at Cy;exact Nat.le_trans (Nat.mul_le_mul_left m h8) Cy
   have Fz:∀ i,i < len -> X7f e (D i):=by
    intro i hi x hx';refine hw x ?_;have e1:∀ (l:List (DataW H)) d,d ∈ l -> x ∈ d.weights prog e -> x ∈ DataW.weightsAll prog e l:=by
     intro l
     induction l with
     | nil=>intro d hd; cases hd
     | cons d0 l ih =>
       intro d hd Zq;rw [DataW.weightsAll]
       rcases List.mem_cons.1 hd with rfl | hd
       . exact List.mem_append_left _ Zq
       . exact List.mem_append_right _ (ih d hd Zq)
    simp only [DataW.weights,ht];refine List.mem_cons_of_mem _ (List.mem_append_left _ (e1 _ (D i) ?_ hx'));exact List.mem_map.2 ⟨i,List.mem_range.2 hi,rfl⟩
   obtain ⟨f,hf⟩:=choose_lt (α:=List Value) (n:=len) (p:=fun i cs=>(∀ r,r < k -> W.cell? ((a.add (i * k)).add r)=cs[r]?) /\ cs.length=k /\ ∃ x:α,R W (fun j=>cs.getD j undef) x) (fun i hi=>by
    obtain ⟨cs,h1,h2⟩:=hx i (by omega)
    obtain ⟨_,h3,h4⟩:=World.cells?_some h1;exact ⟨cs,h4,h3,nX cs _ n h3 h2 (Fz i hi)⟩)
   obtain ⟨g,hg⟩:=choose_lt (α:=α) (n:=len) (p:=fun i x=>R W (fun j=>(f i).getD j undef) x) (fun i hi=>(hf i hi).2.2)
   have hR:∀ i,i < len -> R W (fun j=>(f ((i * k + j) / k)).getD ((i * k + j) % k) undef) (g i):=fun i hi=>Fg W _ _ _ (fun j hj=>by
    have e1:(i * k + j) / k=i:=by rw [Nat.mul_comm,Nat.mul_add_div hk,Nat.div_eq_of_lt hj,Nat.add_zero]
    have e2:(i * k + j) % k=j:=by rw [Nat.mul_comm,Nat.mul_add_mod,Nat.mod_eq_of_lt hj]
    rw [e1,e2]) (hg i hi)
   refine ⟨(List.range len).map g,fun j=>(f (j / k)).getD (j % k) undef,⟨some a,m,by simp,by simp; omega,by simpa using vj,fun j hj=>?_⟩,fun j hj=>?_⟩
   . have Uw:j < len * k:=by simpa using hj
     have hq:j / k < len:=(Nat.div_lt_iff_lt_mul hk).2 Uw;have hr:j % k < k:=Nat.mod_lt _ hk;obtain ⟨h1,h2,_⟩:=hf (j / k) hq;have h3:=h1 (j % k) hr;rw [List.getElem?_eq_getElem (by omega)] at h3
     have B0:a.spot=none:=by
      obtain ⟨g1,g2,_⟩:=hf 0 (Nat.lt_of_le_of_lt (Nat.zero_le _) hq);have g3:=g1 0 hk;rw [List.getElem?_eq_getElem (by omega)] at g3
      have:=World.cell?_spot g3
      simpa [Addr.add] using this
     obtain ⟨b,off,spot⟩:=a;obtain rfl:spot=none:=B0;refine ⟨b,off,rfl,?_⟩;have e:(((⟨b,off,none⟩:Addr).add (j / k * k)).add (j % k))=⟨b,off + j,none⟩:=by
      rw [Y2x,Y2x,Nat.add_assoc];have:j / k * k + j % k=j:=by rw [Nat.mul_comm]; exact Nat.div_add_mod j k
      rw [this]
     rw [e] at h3;rw [h3];simp [h2,hr]
   . have Uw:j < len:=by simpa using hj
     have:=hR j Uw
     simpa using this
theorem Tryz.c3:prog.cellsOf 3=1:=by kernel_rfl
theorem Tryz.b3:prog.bytesOf 3=8:=by kernel_rfl
theorem Q7m {fuel:Nat} {v:Value} {y:DataW H × List MemPlace} (h:DataW.trod enc prog W 0 (fun _=>true) true fuel 22 [v]=some y) (hw:X7f 22 y.1):∃ l,Q0g W v l :=
 X7j (α:=Int) underlying22 Tryz.c3 (by decide) Tryz.b3 (by decide) (fun cs y n hl h _=>by
  obtain ⟨z,rfl,_,_⟩:=DataW.trod_int underlying3 h;exact ⟨z,rfl⟩) (fun _ c c' x hc h=>by rw [<- hc 0 (by decide)]; exact h) h hw
theorem str_of_trod {fuel:Nat} {v:Value} {y:DataW H × List MemPlace} (h:DataW.trod enc prog W 0 (fun _=>true) true fuel 9 [v]=some y) (hw:X7f 9 y.1):∃ s,v=.string s /\ Short s:=by
 obtain ⟨s,h1,rfl,_⟩:=DataW.trod_string underlying9 h;refine ⟨s,by simpa using h1,?_⟩
 have:=hw s.data.toList.length (by simp [DataW.weights])
 have e:s.data.toList.length=s.size:=Array.length_toList;unfold Short;omega
theorem int_of_trod {fuel:Nat} {v:Value} {y:DataW H × List MemPlace} (h:DataW.trod enc prog W 0 (fun _=>true) true fuel 3 [v]=some y):∃ z,v=.int .i64 z:=by
 obtain ⟨z,h1,_,_⟩:=DataW.trod_int underlying3 h;exact ⟨z,by simpa using h1⟩
theorem Q4i {t:TypeId} {ts:List TypeId} {d:DataW H} {ds:List (DataW H)} (h:∀ x ∈ DataW.weightsEach prog (t :: ts) (d :: ds),x <= 140737488351232):X7f t d /\ ∀ x ∈ DataW.weightsEach prog ts ds,x <= 140737488351232:=by
 rw [DataW.weightsEach] at h;exact ⟨fun x hx=>h x (List.mem_append_left _ hx),fun x hx=>h x (List.mem_append_right _ hx)⟩
theorem Tryz.cS:prog.cellsOf 9=1:=by kernel_rfl
theorem Tryz.cI:prog.cellsOf 22=1:=by kernel_rfl
theorem Y7q {t:TypeId} {f0 f1 f2 f3 f4:Field} {fuel:Nat} {cs:List Value} {x:DataW H × List MemPlace} (ht:prog.underlying t=some (.struct #[f0,f1,f2,f3,f4])) (h:DataW.trod enc prog W 0 (fun _=>true) true fuel t cs=some x) :
    ∃ y0 y1 y2 y3 y4 n,x=(.agg [y0.1,y1.1,y2.1,y3.1,y4.1],y0.2 ++ (y1.2 ++ (y2.2 ++ (y3.2 ++ y4.2)))) /\ cs.length=prog.cellsOf t /\ DataW.trod enc prog W 0 (fun _=>true) true n f0.type ((cs.drop f0.offset).take (prog.cellsOf f0.type))=some y0 /\
     DataW.trod enc prog W 0 (fun _=>true) true n f1.type ((cs.drop f1.offset).take (prog.cellsOf f1.type))=some y1 /\ DataW.trod enc prog W 0 (fun _=>true) true n f2.type ((cs.drop f2.offset).take (prog.cellsOf f2.type))=some y2 /\
     DataW.trod enc prog W 0 (fun _=>true) true n f3.type ((cs.drop f3.offset).take (prog.cellsOf f3.type))=some y3 /\ DataW.trod enc prog W 0 (fun _=>true) true n f4.type ((cs.drop f4.offset).take (prog.cellsOf f4.type))=some y4:=by
 obtain ⟨xs,n,_,rfl,hl,Dq,hf⟩:=DataW.trod_struct ht h
 match xs,Dq with
 | [y0,y1,y2,y3,y4],_=>exact ⟨y0,y1,y2,y3,y4,n,by simp,hl,by simpa using hf 0 f0 rfl,by simpa using hf 1 f1 rfl,by simpa using hf 2 f2 rfl,by simpa using hf 3 f3 rfl,by simpa using hf 4 f4 rfl⟩
theorem Tryz.cMb:prog.cellsOf 68=5:=by kernel_rfl
theorem Tryz.bMb:prog.bytesOf 68=96:=by kernel_rfl
theorem Y8p {fuel:Nat} {v:Value} {y:DataW H × List MemPlace} (h:DataW.trod enc prog W 0 (fun _=>true) true fuel 23 [v]=some y) (hw:X7f 23 y.1):∃ l,X0b W v l :=
 X7j (α:=Mem) underlying23 Tryz.cMb (by decide) Tryz.bMb (by decide) (fun cs y n hl h hw=>by
  obtain ⟨y0,y1,y2,y3,y4,m,rfl,_,h0,h1,h2,h3,h4⟩:=Y7q underlying68 h
  match cs,hl with
  | [c0,c1,c2,c3,c4],_ =>
    have J9:∀ x ∈ DataW.weightsEach prog [9,3,22,22,22] [y0.1,y1.1,y2.1,y3.1,y4.1],x <= 140737488351232:=fun x hx=>hw x (by simpa [DataW.weights,underlying68] using hx)
    obtain ⟨w0,r0⟩:=Q4i J9;obtain ⟨_,r1⟩:=Q4i r0;obtain ⟨w2,r2⟩:=Q4i r1;obtain ⟨w3,r3⟩:=Q4i r2;obtain ⟨w4,_⟩:=Q4i r3;have G3:DataW.trod enc prog W 0 (fun _=>true) true m 9 [c0]=some y0:=by simpa [Tryz.cS,Tryz.c3,Tryz.cI] using h0
    have O2:DataW.trod enc prog W 0 (fun _=>true) true m 3 [c1]=some y1:=by simpa [Tryz.cS,Tryz.c3,Tryz.cI] using h1
    have G9:DataW.trod enc prog W 0 (fun _=>true) true m 22 [c2]=some y2:=by simpa [Tryz.cS,Tryz.c3,Tryz.cI] using h2
    have di:DataW.trod enc prog W 0 (fun _=>true) true m 22 [c3]=some y3:=by simpa [Tryz.cS,Tryz.c3,Tryz.cI] using h3
    have ci:DataW.trod enc prog W 0 (fun _=>true) true m 22 [c4]=some y4:=by simpa [Tryz.cS,Tryz.c3,Tryz.cI] using h4
    obtain ⟨s,rfl,hs⟩:=str_of_trod G3 w0;obtain ⟨z,rfl⟩:=int_of_trod O2;obtain ⟨l2,Qk⟩:=Q7m G9 w2;obtain ⟨l3,By⟩:=Q7m di w3;obtain ⟨l4,mX⟩:=Q7m ci w4;exact ⟨⟨s,z,l2,l3,l4⟩,rfl,rfl,Qk,By,mX,hs⟩)
  (fun _ c c' x hc h=>⟨by rw [<- hc 0 (by decide)]; exact h.1,by rw [<- hc 1 (by decide)]; exact h.2.1,by rw [<- hc 2 (by decide)]; exact h.2.2.1,by rw [<- hc 3 (by decide)]; exact h.2.2.2.1,by rw [<- hc 4 (by decide)]; exact h.2.2.2.2.1,h.2.2.2.2.2⟩) h hw
theorem Tryz.cSn:prog.cellsOf 25=3:=by kernel_rfl
theorem Y2d {b0:Nat} {v:Value} {d:DataW H} {ps:List MemPlace} (hv:Value.okWide prog W .any b0 25 v) (h:DataW.Trod enc prog W 0 (fun _=>true) true 25 v d ps) (hw:X7f 25 d):∃ t,Q0i W v t:=by
 obtain ⟨cs,rfl,oq⟩:=okWide_struct underlying25 hv;rw [Tryz.cSn] at oq;obtain ⟨c0,c1,c2,rfl⟩:∃ a b c,cs=#[a,b,c]:=by
  obtain ⟨l⟩:=cs
  match l,oq with
  | [a,b,c],_=>exact ⟨a,b,c,rfl⟩
 obtain ⟨fuel,hf⟩:=h;obtain ⟨y0,y1,y2,m,hx,_,h0,h1,h2⟩:=trod_struct3 underlying25 hf;simp only [Prod.mk.injEq] at hx;obtain ⟨rfl,_⟩:=hx;have J9:∀ x ∈ DataW.weightsEach prog [3,22,23] [y0.1,y1.1,y2.1],x <= 140737488351232:=fun x hx=>hw x (by simpa [DataW.weights,underlying25] using hx)
 obtain ⟨_,r0⟩:=Q4i J9;obtain ⟨w1,r1⟩:=Q4i r0;obtain ⟨w2,_⟩:=Q4i r1;have e2:prog.cellsOf 23=1:=by kernel_rfl
 have G3:DataW.trod enc prog W 0 (fun _=>true) true m 3 [c0]=some y0:=by simpa [Tryz.c3,Tryz.cI,e2,Value.cells] using h0
 have O2:DataW.trod enc prog W 0 (fun _=>true) true m 22 [c1]=some y1:=by simpa [Tryz.c3,Tryz.cI,e2,Value.cells] using h1
 have G9:DataW.trod enc prog W 0 (fun _=>true) true m 23 [c2]=some y2:=by simpa [Tryz.c3,Tryz.cI,e2,Value.cells] using h2
 obtain ⟨z,rfl⟩:=int_of_trod G3;obtain ⟨b,hb⟩:=Q7m O2 w1;obtain ⟨c,hc⟩:=Y8p G9 w2;exact ⟨⟨z,b,c⟩,_,_,rfl,⟨hb,hc⟩⟩
end
end Go.Proofs
namespace Go.Proofs
open Go.Shelf Tryz
def Tryz.lays169_ren:Go.Shelf.Ren:=⟨fun | 169=>150 | n=>n,fun | 70=>211 | 9=>9 | 0=>0 | 72=>214 | 37=>212 | 127=>253 | 3=>3 | 5=>5 | n=>n,fun | n=>n⟩
theorem Tryz.lays169:Go.Proofs.Lays.n169 prog Tryz.lays169_ren:={
 mixed:=by kernel_rfl
 f169:=func150.trans (congrArg some (by kernel_rfl))
 t0:=underlying0
 a0:=Tryz.isAgg0
 z0:=Tryz.sizeOf0
 v0:=Tryz.zeroValue0
 t3:=underlying3
 a3:=Tryz.isAgg3
 z3:=Tryz.sizeOf3
 v3:=Tryz.zeroValue3
 t9:=underlying9
 a9:=Tryz.isAgg9
 z9:=Tryz.sizeOf9
 v9:=Tryz.zeroValue9
 t37:=underlying212
 a37:=Tryz.isAgg212
 z37:=Tryz.sizeOf212
 v37:=Tryz.zeroValue212
 t70:=underlying211
 a70:=Tryz.isAgg211
 z70:=Tryz.sizeOf211
 v70:=Tryz.zeroValue211
 t72:=underlying214
 a72:=Tryz.isAgg214
 z72:=Tryz.sizeOf214
 v72:=Tryz.zeroValue214
 t127:=underlying253
 a127:=Tryz.isAgg253
 z127:=Tryz.sizeOf253
 v127:=Tryz.zeroValue253 }
theorem Tryz.Builder_Extra_169:Builder.Extra prog Tryz.lays169_ren:={
 sizeBuilder:=by kernel_rfl
 liesBuilder:=by kernel_rfl
 t5:=underlying5
 a5:=Tryz.isAgg5
 z5:=Tryz.sizeOf5
 v5:=Tryz.zeroValue5
 infoByte:=by kernel_rfl
 cellsByte:=by kernel_rfl
 sizeByte:=by kernel_rfl
 neB5:=by decide }
open Go.RowKit in
theorem Tryz.Builder_String_any (B b:Nat) (l:List UInt8) (w:World) (h:Lib.IsBuilder 214 5 B b (Lib.byteCells l) w) (bi:B <= w.heap.size) :
    Calls prog 150 #[.pointer (some ⟨b,0,none⟩)] w fun e w'=>e=.returned (.string ⟨l.toArray⟩) /\ Below B w w':=Any.Builder_String_any Tryz.lays169 Tryz.Builder_Extra_169 B b l w h bi
open Go.RowKit in
def Tryz.lays156_ren:Go.Shelf.Ren:=⟨fun | 156=>149 | 165=>180 | 166=>148 | 169=>150 | 240=>179 | 241=>193 | 276=>192 | 277=>217 | n=>n,fun | 31=>157 | 9=>9 | 3=>3 | 4=>4 | 0=>0 | 20=>20 | 72=>214 | 76=>220 | 70=>211 | 37=>212 | 75=>219 | 127=>253 | 164=>266 | 5=>5 | 80=>223 | n=>n,fun | n=>n⟩
theorem Tryz.lays156:Go.Proofs.Lays.n156 prog Tryz.lays156_ren:={
 mixed:=by kernel_rfl
 f156:=func149.trans (congrArg some (by kernel_rfl))
 f165:=func180.trans (congrArg some (by kernel_rfl))
 f166:=func148.trans (congrArg some (by kernel_rfl))
 f169:=func150.trans (congrArg some (by kernel_rfl))
 f240:=func179.trans (congrArg some (by kernel_rfl))
 f241:=func193.trans (congrArg some (by kernel_rfl))
 f276:=func192.trans (congrArg some (by kernel_rfl))
 f277:=func217.trans (congrArg some (by kernel_rfl))
 t0:=underlying0
 a0:=Tryz.isAgg0
 z0:=Tryz.sizeOf0
 v0:=Tryz.zeroValue0
 t3:=underlying3
 a3:=Tryz.isAgg3
 z3:=Tryz.sizeOf3
 v3:=Tryz.zeroValue3
 t4:=underlying4
 a4:=Tryz.isAgg4
 z4:=Tryz.sizeOf4
 v4:=Tryz.zeroValue4
 t9:=underlying9
 a9:=Tryz.isAgg9
 z9:=Tryz.sizeOf9
 v9:=Tryz.zeroValue9
 t20:=underlying20
 a20:=Tryz.isAgg20
 z20:=Tryz.sizeOf20
 v20:=Tryz.zeroValue20
 t31:=underlying157
 a31:=Tryz.isAgg157
 z31:=Tryz.sizeOf157
 v31:=Tryz.zeroValue157
 t37:=underlying212
 a37:=Tryz.isAgg212
 z37:=Tryz.sizeOf212
 v37:=Tryz.zeroValue212
 t70:=underlying211
 a70:=Tryz.isAgg211
 z70:=Tryz.sizeOf211
 v70:=Tryz.zeroValue211
 t72:=underlying214
 a72:=Tryz.isAgg214
 z72:=Tryz.sizeOf214
 v72:=Tryz.zeroValue214
 t75:=underlying219
 a75:=Tryz.isAgg219
 z75:=Tryz.sizeOf219
 v75:=Tryz.zeroValue219
 t76:=underlying220
 a76:=Tryz.isAgg220
 z76:=Tryz.sizeOf220
 v76:=Tryz.zeroValue220
 t127:=underlying253
 a127:=Tryz.isAgg253
 z127:=Tryz.sizeOf253
 v127:=Tryz.zeroValue253
 t164:=underlying266
 a164:=Tryz.isAgg266
 z164:=Tryz.sizeOf266
 v164:=Tryz.zeroValue266 }
theorem Tryz.Builder_Extra_156:Builder.Extra prog Tryz.lays156_ren:={
 sizeBuilder:=by kernel_rfl
 liesBuilder:=by kernel_rfl
 t5:=underlying5
 a5:=Tryz.isAgg5
 z5:=Tryz.sizeOf5
 v5:=Tryz.zeroValue5
 infoByte:=by kernel_rfl
 cellsByte:=by kernel_rfl
 sizeByte:=by kernel_rfl
 neB5:=by decide }
open Go.RowKit in
theorem Tryz.strings_Join (bk o c:Nat) (xs:List ByteArray) (sep:ByteArray) (w:World) (F3:∀ (j:Nat) x,xs[j]?=some x -> w.cell? ⟨bk,o + j,none⟩=some (.string x)) (xj:bk < w.heap.size) (hN:xs.length <= 140737488355328) (Kq:xs.length <= c) (Dq:(Lib.join (xs.map (·.data.toList)) sep.data.toList).length <= 140737488355328) :
    Calls prog 149 #[.slice (some ⟨bk,o,none⟩) xs.length c,.string sep] w fun e w'=>e=.returned (.string ⟨(Lib.join (xs.map (·.data.toList)) sep.data.toList).toArray⟩) /\ Below w.heap.size w w':=Any.strings_Join Tryz.lays156 Tryz.Builder_Extra_156 bk o c xs sep w F3 xj hN Kq Dq
open Go.RowKit Go.Sort Go.Lib in
def Tryz.Z2e:Go.Shelf.Ren:=⟨fun | 171=>147 | 243=>178 | 246=>191 | 283=>213 | 284=>214 | 285=>215 | 286=>216 | 129=>211 | 317=>238 | 318=>239 | 319=>240 | 320=>241 | 337=>249 | 338=>250 | n=>n,fun | 3=>3 | 9=>9 | 2=>2 | 4=>4 | 171=>288 | 0=>0 | 53=>287 | 37=>212 | 5=>5 | 173=>290 | 212=>311 | 51=>285 | 20=>20 | 213=>312 | 46=>262 | 232=>321 | 233=>322 | n=>n,fun | 17=>2 | 18=>3 | 19=>4 | n=>n⟩
theorem Tryz.lays171:Go.Proofs.Lays.n171 prog Z2e:={
 mixed:=by kernel_rfl
 f129:=func211.trans (congrArg some (by kernel_rfl))
 f171:=func147.trans (congrArg some (by kernel_rfl))
 f243:=func178.trans (congrArg some (by kernel_rfl))
 f246:=func191.trans (congrArg some (by kernel_rfl))
 f283:=func213.trans (congrArg some (by kernel_rfl))
 f284:=func214.trans (congrArg some (by kernel_rfl))
 f285:=func215.trans (congrArg some (by kernel_rfl))
 f286:=func216.trans (congrArg some (by kernel_rfl))
 f317:=func238.trans (congrArg some (by kernel_rfl))
 f318:=func239.trans (congrArg some (by kernel_rfl))
 f319:=func240.trans (congrArg some (by kernel_rfl))
 f320:=func241.trans (congrArg some (by kernel_rfl))
 f337:=func249.trans (congrArg some (by kernel_rfl))
 f338:=func250.trans (congrArg some (by kernel_rfl))
 t0:=underlying0
 a0:=Tryz.isAgg0
 z0:=Tryz.sizeOf0
 v0:=Tryz.zeroValue0
 t2:=underlying2
 a2:=Tryz.isAgg2
 z2:=Tryz.sizeOf2
 v2:=Tryz.zeroValue2
 t3:=underlying3
 a3:=Tryz.isAgg3
 z3:=Tryz.sizeOf3
 v3:=Tryz.zeroValue3
 t4:=underlying4
 a4:=Tryz.isAgg4
 z4:=Tryz.sizeOf4
 v4:=Tryz.zeroValue4
 t5:=underlying5
 a5:=Tryz.isAgg5
 z5:=Tryz.sizeOf5
 v5:=Tryz.zeroValue5
 t9:=underlying9
 a9:=Tryz.isAgg9
 z9:=Tryz.sizeOf9
 v9:=Tryz.zeroValue9
 t20:=underlying20
 a20:=Tryz.isAgg20
 z20:=Tryz.sizeOf20
 v20:=Tryz.zeroValue20
 t37:=underlying212
 a37:=Tryz.isAgg212
 z37:=Tryz.sizeOf212
 v37:=Tryz.zeroValue212
 t46:=underlying262
 a46:=Tryz.isAgg262
 z46:=Tryz.sizeOf262
 v46:=Tryz.zeroValue262
 t51:=underlying285
 a51:=Tryz.isAgg285
 z51:=Tryz.sizeOf285
 v51:=Tryz.zeroValue285
 t53:=underlying287
 a53:=Tryz.isAgg287
 z53:=Tryz.sizeOf287
 v53:=Tryz.zeroValue287
 t171:=underlying288
 a171:=Tryz.isAgg288
 z171:=Tryz.sizeOf288
 v171:=Tryz.zeroValue288
 t173:=underlying290
 a173:=Tryz.isAgg290
 z173:=Tryz.sizeOf290
 v173:=Tryz.zeroValue290
 t212:=underlying311
 a212:=Tryz.isAgg311
 z212:=Tryz.sizeOf311
 v212:=Tryz.zeroValue311
 t213:=underlying312
 a213:=Tryz.isAgg312
 z213:=Tryz.sizeOf312
 t232:=underlying321
 a232:=Tryz.isAgg321
 z232:=Tryz.sizeOf321
 v232:=Tryz.zeroValue321
 t233:=underlying322
 a233:=Tryz.isAgg322
 z233:=Tryz.sizeOf322
 v233:=Tryz.zeroValue322
 g17:=by kernel_rfl
 g18:=by kernel_rfl
 g19:=by kernel_rfl }
open Go.RowKit Go.Sort Go.Lib in
theorem Tryz.strconv_Itoa_small (i:Nat) (hi:i < 100) (w:World) :
    Calls prog 147 #[.int .i64 i] w fun e w'=>e=.returned (.string ⟨(Lib.decDigits i).toArray⟩) /\ w'=w:=Any.strconv_Itoa_small Tryz.lays171 i hi w
open Go.Lib in
def Tryz.Y4y:Go.Shelf.Ren:=⟨fun | 15=>174 | n=>n,fun | 22=>22 | 3=>3 | 4=>4 | n=>n,fun | n=>n⟩
theorem Tryz.laysNm215:Go.Proofs.Lays2.n15 prog Y4y:={
 mixed:=by kernel_rfl
 f15:=func174.trans (congrArg some (by kernel_rfl))
 t3:=underlying3
 a3:=Tryz.isAgg3
 z3:=Tryz.sizeOf3
 v3:=Tryz.zeroValue3
 t4:=underlying4
 a4:=Tryz.isAgg4
 z4:=Tryz.sizeOf4
 v4:=Tryz.zeroValue4
 t22:=underlying22
 a22:=Tryz.isAgg22
 z22:=Tryz.sizeOf22
 v22:=Tryz.zeroValue22
 i3:=by kernel_rfl }
open Go.RowKit Go.Lib in
theorem Tryz.slices_Clone_int (b off n c:Nat) (zs:List Int) (w:World) (hz:n <= zs.length) (OG:n * 8 <= 140737488355328) (hc:∀ j,j < zs.length -> w.cell? ⟨b,off + j,none⟩=some (.int .i64 (zs.getD j 0))) :
    Calls prog 174 #[.slice (some ⟨b,off,none⟩) n c] w fun e w'=>∃ v',e=.returned v' /\ w'.ownsRow w.heap.size 3 1 v' n ((zs.take n).map (Value.int .i64)) /\ v' ≠ .slice none 0 0 /\ Below w.heap.size w w':=Any.slices_Clone_int Tryz.laysNm215 b off n c zs w hz OG hc
open Go.RowKit Go.Lib in
theorem Tryz.slices_Clone_int_nil (n c:Nat) (w:World) :
    Calls prog 174 #[.slice none n c] w fun e w'=>e=.returned (.slice none 0 0) /\ w'=w:=Any.slices_Clone_int_nil Tryz.laysNm215 n c w
open Go.RowKit Go.Lib in
theorem Tryz.slices_Clone_int_zero (a:Addr) (c:Nat) (w:World) :
    Calls prog 174 #[.slice (some a) 0 c] w fun e w'=>∃ v',e=.returned v' /\ w'.ownsRow w.heap.size 3 1 v' 0 [] /\ v' ≠ .slice none 0 0 /\ Below w.heap.size w w':=Any.slices_Clone_int_zero Tryz.laysNm215 a c w
open Go.RowKit Go.Lib in
def Tryz.Z1f:Go.Shelf.Ren:=⟨fun | 6=>159 | 15=>187 | 14=>186 | 28=>210 | 29=>211 | 20=>202 | 21=>203 | 22=>204 | 23=>205 | 24=>206 | 25=>207 | 26=>208 | 27=>209 | 46=>233 | 47=>234 | 48=>235 | 49=>236 | 50=>237 | 57=>248 | n=>n,fun | 22=>168 | 24=>166 | 25=>237 | 3=>3 | 39=>262 | 0=>0 | 53=>285 | 55=>287 | 4=>4 | 46=>278 | 45=>277 | 50=>282 | 5=>5 | 9=>9 | 66=>304 | 70=>308 | 76=>319 | 77=>89 | n=>n,fun | n=>n⟩
theorem Tryz.J5s:Go.Proofs.SlLaysF.n6 prog Z1f:={
 mixed:=by kernel_rfl
 f6:=⟨Tryz.f159.name,by decide,func159.trans (congrArg some (by kernel_rfl))⟩
 f14:=⟨Tryz.f186.name,by decide,func186.trans (congrArg some (by kernel_rfl))⟩
 f15:=func187.trans (congrArg some (by kernel_rfl))
 f20:=⟨Tryz.f202.name,by decide,func202.trans (congrArg some (by kernel_rfl))⟩
 f21:=⟨Tryz.f203.name,by decide,func203.trans (congrArg some (by kernel_rfl))⟩
 f22:=⟨Tryz.f204.name,by decide,func204.trans (congrArg some (by kernel_rfl))⟩
 f23:=⟨Tryz.f205.name,by decide,func205.trans (congrArg some (by kernel_rfl))⟩
 f24:=⟨Tryz.f206.name,by decide,func206.trans (congrArg some (by kernel_rfl))⟩
 f25:=⟨Tryz.f207.name,by decide,func207.trans (congrArg some (by kernel_rfl))⟩
 f26:=⟨Tryz.f208.name,by decide,func208.trans (congrArg some (by kernel_rfl))⟩
 f27:=⟨Tryz.f209.name,by decide,func209.trans (congrArg some (by kernel_rfl))⟩
 f28:=func210.trans (congrArg some (by kernel_rfl))
 f29:=func211.trans (congrArg some (by kernel_rfl))
 f46:=⟨Tryz.f233.name,by decide,func233.trans (congrArg some (by kernel_rfl))⟩
 f47:=func234.trans (congrArg some (by kernel_rfl))
 f48:=func235.trans (congrArg some (by kernel_rfl))
 f49:=⟨Tryz.f236.name,by decide,func236.trans (congrArg some (by kernel_rfl))⟩
 f50:=⟨Tryz.f237.name,by decide,func237.trans (congrArg some (by kernel_rfl))⟩
 f57:=⟨Tryz.f248.name,by decide,func248.trans (congrArg some (by kernel_rfl))⟩
 t0:=underlying0
 a0:=Tryz.isAgg0
 z0:=Tryz.sizeOf0
 v0:=Tryz.zeroValue0
 t3:=underlying3
 a3:=Tryz.isAgg3
 z3:=Tryz.sizeOf3
 v3:=Tryz.zeroValue3
 t4:=underlying4
 a4:=Tryz.isAgg4
 z4:=Tryz.sizeOf4
 v4:=Tryz.zeroValue4
 t5:=underlying5
 a5:=Tryz.isAgg5
 z5:=Tryz.sizeOf5
 v5:=Tryz.zeroValue5
 t9:=underlying9
 a9:=Tryz.isAgg9
 z9:=Tryz.sizeOf9
 v9:=Tryz.zeroValue9
 t22:=underlying168
 a22:=Tryz.isAgg168
 z22:=Tryz.sizeOf168
 v22:=Tryz.zeroValue168
 a24:=Tryz.isAgg166
 z24:=Tryz.sizeOf166
 t25:=underlying237
 a25:=Tryz.isAgg237
 z25:=Tryz.sizeOf237
 v25:=Tryz.zeroValue237
 t39:=underlying262
 a39:=Tryz.isAgg262
 z39:=Tryz.sizeOf262
 v39:=Tryz.zeroValue262
 t45:=underlying277
 a45:=Tryz.isAgg277
 z45:=Tryz.sizeOf277
 v45:=Tryz.zeroValue277
 t46:=underlying278
 a46:=Tryz.isAgg278
 z46:=Tryz.sizeOf278
 v46:=Tryz.zeroValue278
 t50:=underlying282
 a50:=Tryz.isAgg282
 z50:=Tryz.sizeOf282
 v50:=Tryz.zeroValue282
 t53:=underlying285
 a53:=Tryz.isAgg285
 z53:=Tryz.sizeOf285
 v53:=Tryz.zeroValue285
 t55:=underlying287
 a55:=Tryz.isAgg287
 z55:=Tryz.sizeOf287
 v55:=Tryz.zeroValue287
 t66:=underlying304
 a66:=Tryz.isAgg304
 z66:=Tryz.sizeOf304
 v66:=Tryz.zeroValue304
 t70:=underlying308
 a70:=Tryz.isAgg308
 z70:=Tryz.sizeOf308
 v70:=Tryz.zeroValue308
 t76:=underlying319
 a76:=Tryz.isAgg319
 z76:=Tryz.sizeOf319
 v76:=Tryz.zeroValue319
 t77:=underlying89
 a77:=Tryz.isAgg89
 z77:=Tryz.sizeOf89
 v77:=Tryz.zeroValue89 }
end Go.Proofs
namespace Go.Flow
open Go.RowKit
def upd (v:Nat -> Value) (j:Nat) (u:Value):Nat -> Value:=fun k=>if k=j then u else v k
def mask (pre:Nat -> List Nat) (k:Nat) (v:Nat -> Value):Nat -> Value:=fun i=>if (i == k || (pre k).contains i)=true then v i else undef
def act (X:Nat -> Bool) (v:Nat -> Value):List Oper -> Nat -> Act -> Act
 | [],_,a=>a
 | o :: l,i,a=>act X v l (i + 1) (if X i then a.put o.dst (v i) else a)
theorem Q8s (a:Act) (d:Option Tmp) (u:Value):(a.put d u).tmps.size=a.tmps.size:=by cases d <;> simp [Act.put]
theorem put_defers (a:Act) (d:Option Tmp) (u:Value):(a.put d u).defers=a.defers:=by cases d <;> rfl
theorem X8a (X:Nat -> Bool) (v:Nat -> Value):∀ (l:List Oper) (i:Nat) (a:Act),(act X v l i a).tmps.size=a.tmps.size
 | [],_,_=>rfl
 | o :: l,i,a=>by rw [act,X8a X v l]; split <;> simp [Q8s]
theorem Q3h (X:Nat -> Bool) (v:Nat -> Value):∀ (l:List Oper) (i:Nat) (a:Act),(act X v l i a).defers=a.defers
 | [],_,_=>rfl
 | o :: l,i,a=>by rw [act,Q3h X v l]; split <;> simp [put_defers]
theorem X6d (a:Act) (d:Option Tmp) (u:Value) (t:Tmp) (h:d ≠ some t):(a.put d u).tmps[t]?=a.tmps[t]?:=by
 cases d with
 | none=>rfl
 | some d=>simp only [Act.put]; exact Array.getElem?_setIfInBounds_ne (fun e=>h (by rw [e]))
theorem X0y (a:Act) (u:Value) (t:Tmp) (h:t < a.tmps.size):(a.put (some t) u).tmps[t]?=some u:=by
 simp [Act.put,h]
theorem Q6y (X Y:Nat -> Bool) (v v':Nat -> Value) (t:Tmp):∀ (l:List Oper) (i:Nat) (a a':Act),a.tmps.size=a'.tmps.size -> a.tmps[t]?=a'.tmps[t]? ->
    (∀ k o,l[k]?=some o -> o.dst=some t -> X (i + k)=Y (i + k) /\ (X (i + k)=true -> v (i + k)=v' (i + k))) ->
    (act X v l i a).tmps[t]?=(act Y v' l i a').tmps[t]?
 | [],_,_,_,_,h,_=>h
 | o :: l,i,a,a',hs,h,hk=>by
   rw [act,act];refine Q6y X Y v v' t l (i + 1) _ _ (by split <;> split <;> simp [Q8s,hs]) ?_ (fun k o' ho hd=>by have:=hk (k + 1) o' (by simpa using ho) hd; rwa [show i + (k + 1)=i + 1 + k from by omega] at this)
   by_cases hd:o.dst=some t
   . obtain ⟨h1,h2⟩:=hk 0 o rfl hd
     simp only [Nat.add_zero] at h1 h2;rw [<- h1]
     split
     . rename_i hx
       rw [hd,h2 hx]
       rcases Nat.lt_or_ge t a.tmps.size with hl | hl
       . rw [X0y _ _ _ hl,X0y _ _ _ (hs ▸ hl)]
       . rw [Array.getElem?_eq_none (by rw [Q8s]; exact hl),Array.getElem?_eq_none (by rw [Q8s,<- hs]; exact hl)]
     . exact h
   . have e1:(if X i=true then a.put o.dst (v i) else a).tmps[t]?=a.tmps[t]?:=by split <;> first | exact X6d _ _ _ _ hd | rfl
     have e2:(if Y i=true then a'.put o.dst (v' i) else a').tmps[t]?=a'.tmps[t]?:=by split <;> first | exact X6d _ _ _ _ hd | rfl
     rw [e1,e2,h]
theorem Z2z (X:Nat -> Bool) (v:Nat -> Value) (t:Tmp):∀ (l:List Oper) (i:Nat) (a:Act) (j:Nat) (o:Oper),t < a.tmps.size -> l[j]?=some o -> o.dst=some t -> X (i + j)=true ->
    (∀ k o',j < k -> l[k]?=some o' -> o'.dst=some t -> X (i + k)=false) -> (act X v l i a).tmps[t]?=some (v (i + j))
 | [],_,_,_,_,_,h,_,_,_=>by simp at h
 | o :: l,i,a,0,o',hs,h,hd,hX,hk=>by
   simp only [List.getElem?_cons_zero,Option.some.injEq] at h;subst h;simp only [Nat.add_zero] at hX ⊢;rw [act,if_pos hX,Q6y X (fun _=>false) v v t l (i + 1) _ (a.put o.dst (v i)) rfl rfl (fun k o' ho F9=>by
    have:=hk (k + 1) o' (by omega) (by simpa using ho) F9
    rw [show i + (k + 1)=i + 1 + k from by omega] at this
    exact ⟨this,fun h=>by simp [this] at h⟩)]
   have:∀ (l:List Oper) (i:Nat) (a:Act),act (fun _=>false) v l i a=a:=by
    intro l; induction l with
    | nil=>intro i a; rfl
    | cons o l ih=>intro i a; simp [act,ih]
   rw [this,hd]; exact X0y _ _ _ hs
 | o :: l,i,a,j + 1,o',hs,h,hd,hX,hk=>by
   rw [act];have:=Z2z X v t l (i + 1) (if X i then a.put o.dst (v i) else a) j o' (by split <;> simp [Q8s,hs]) (by simpa using h) hd (by rwa [show i + 1 + j=i + (j + 1) from by omega])
    (fun k o'' Uq ho F9=>by have:=hk (k + 1) o'' (by omega) (by simpa using ho) F9; rwa [show i + (k + 1)=i + 1 + k from by omega] at this)
   rw [this]; congr 2; omega
theorem X2k {a b:Act} (hd:a.defers=b.defers) (h:∀ t:Nat,a.tmps[t]?=b.tmps[t]?):a=b:=by
 obtain ⟨ta,da⟩:=a; obtain ⟨tb,db⟩:=b;simp only at hd h;subst hd
 congr
 exact Array.ext_getElem? h
def okB (ops:Array Oper) (pre:Nat -> List Nat):Bool :=
 Region.noSelect ops &&
 (List.range ops.size).all fun j=>match ops[j]? with
  | none=>true
  | some oj =>
    (oj.after.toList.all fun e=>!Region.binds .any e || decide (e.on < j)) &&
    ((pre j).all fun i=>oj.after.toList.any fun e=>Region.binds .any e && (e.on == i || (pre e.on).contains i)) &&
    (List.range j).all fun i=>match ops[i]? with
     | none=>true
     | some oi=>oi.apart ops oj || (pre j).contains i
structure Ok (ops:Array Oper) (pr:Nat -> List Nat):Prop where
 sel:∀ (j:Nat) (o:Oper) (cs:Array SelectCase) (b:Bool),ops[j]?=some o -> o.op ≠ .select cs b
 edge:∀ j o,ops[j]?=some o -> ∀ e ∈ o.after,Region.binds .any e=true -> e.on < j
 pre:∀ j o,ops[j]?=some o -> ∀ i ∈ pr j,∃ e ∈ o.after,Region.binds .any e=true /\ (e.on=i ∨ i ∈ pr e.on)
 apart:∀ i j oi oj,i < j -> ops[i]?=some oi -> ops[j]?=some oj -> oi.apart ops oj=true ∨ i ∈ pr j
theorem J6m {ops:Array Oper} {pre:Nat -> List Nat} (h:okB ops pre=true):Ok ops pre:=by
 simp only [okB,Bool.and_eq_true,List.all_eq_true,List.mem_range] at h;obtain ⟨hs,h⟩:=h;have hj:∀ j o,ops[j]?=some o -> j < ops.size:=fun j o ho=>(Array.getElem?_eq_some_iff.1 ho).1;refine ⟨Region.noSelect_spec hs,fun j o ho e he hb=>?_,fun j o ho i hi=>?_,fun i j oi oj hij hoi hoj=>?_⟩
 . have:=h j (hj j o ho)
   simp only [ho,Bool.and_eq_true,List.all_eq_true] at this;have:=this.1.1 e (Array.mem_toList_iff.2 he)
   simpa [hb] using this
 . have:=h j (hj j o ho)
   simp only [ho,Bool.and_eq_true,List.all_eq_true] at this;have:=this.1.2 i hi;simp only [List.any_eq_true,Bool.and_eq_true,Bool.or_eq_true,beq_iff_eq,List.contains_iff_mem] at this;obtain ⟨e,he,hb,hc⟩:=this;exact ⟨e,Array.mem_toList_iff.1 he,hb,hc⟩
 . have:=h j (hj j oj hoj)
   simp only [hoj,Bool.and_eq_true,List.all_eq_true,List.mem_range] at this;have:=this.2 i hij;simp only [hoi,Bool.or_eq_true,List.contains_iff_mem] at this;exact this
section
variable {P:Program} {ops:Array Oper} {pre:Nat -> List Nat}
theorem eval_congr {a b:Act} (o:Oper) (h:∀ t ∈ o.looksAt ops,a.tmps[t]?=b.tmps[t]?):∀ x ∈ o.op.operands,a.eval x=b.eval x:=fun x hx=>by
 cases x with
 | tmp t =>
   have:=h t (List.mem_append_left _ (List.mem_filterMap.2 ⟨.tmp t,by simpa using hx,rfl⟩))
   simp [Act.eval,this]
 | _=>rfl
theorem Q9z {a b:Act} (o:Oper) (h:∀ t ∈ o.looksAt ops,a.tmps[t]?=b.tmps[t]?):Region.wanted o (yielded ops a.tmps)=Region.wanted o (yielded ops b.tmps):=by
 unfold Region.wanted;cases hg:o.guard with
 | none=>rfl
 | some gw =>
   obtain ⟨g,want⟩:=gw;have hy:yielded ops a.tmps g=yielded ops b.tmps g:=by
    unfold yielded;cases ht:(ops[g]?).bind (·.dst) with
    | none=>rfl
    | some t =>
      have:=h t (by simp [Oper.looksAt,hg,ht])
      simp [this]
   simp only [hy]
def gives (P:Program) (G:Value -> World -> Prop):Result Next -> Prop
 | .ok (.value v) w'=>G v w'
 | .ok .skip w'=>G undef w'
 | .ok (.enter f args) w'=>Calls P f args w' fun e w''=>∃ u,e=.returned u /\ G u w''
 | .ok (.row row args) w'=>Rows P row args w' fun v w''=>G v w''
 | _=>False
theorem Q5d {G G':Value -> World -> Prop} (h:∀ v w,G v w -> G' v w) {r:Result Next} (hr:gives P G r):gives P G' r:=by
 cases r with
 | ok n w =>
   cases n <;> simp only [gives] at hr ⊢
   case value=>exact h _ _ hr
   case skip=>exact h _ _ hr
   case enter=>exact hr.mono fun e w ⟨u,he,hu⟩=>⟨u,he,h _ _ hu⟩
   case row=>exact hr.mono fun v w hu=>h _ _ hu
 | halt x w=>exact hr
theorem Q2z {o:Oper} {a:Act} {K:Act -> World -> Prop} {Q:Exit -> Act -> World -> Prop} {r:Result Next} (h:gives P (fun v w=>K (a.put o.dst v) w) r):o.upon P a K Q r:=by
 cases r with
 | ok n w =>
   cases n <;> simp only [gives,Oper.upon] at h ⊢
   case value=>exact h
   case skip=>exact h
   case enter=>exact h.mono fun e w ⟨u,he,hu⟩=>by subst he; exact hu
   case row=>exact h
 | halt x w=>exact h.elim
inductive Kind where
 | plain
 | world
 | last
abbrev Kind.p:=Kind.plain
abbrev Kind.w:=Kind.world
def vc (P:Program) (ops:Array Oper) (pre:Nat -> List Nat) (Rel:World -> World -> Prop) (D:Nat -> (Nat -> Value) -> World -> Prop) (T E:(Nat -> Value) -> World -> World -> Prop) (k:Kind) (o:Oper) (j:Nat) (b:Act) (v:Nat -> Value) (w1:World):Prop :=
 match k with
 | .plain=>(Region.wanted o (yielded ops b.tmps)=true /\ ∃ u,(∀ w,(execOp b.eval o).run P w=.ok (.value u) w) /\ D j (mask pre j (upd v j u)) w1) ∨ (Region.wanted o (yielded ops b.tmps)=false /\ D j (mask pre j (upd v j undef)) w1)
 | .world=>(Region.wanted o (yielded ops b.tmps)=true /\ gives P (fun u w'=>Rel w1 w' /\ D j (mask pre j (upd v j u)) w') ((execOp b.eval o).run P w1)) ∨ (Region.wanted o (yielded ops b.tmps)=false /\ D j (mask pre j (upd v j undef)) w1)
 | .last=>∀ w,T v w1 w -> (Region.wanted o (yielded ops b.tmps)=true /\ gives P (fun u w'=>E (mask pre j (upd v j u)) w1 w') ((execOp b.eval o).run P w)) ∨ (Region.wanted o (yielded ops b.tmps)=false /\ E (mask pre j (upd v j undef)) w1 w)
def Tail (pre:Nat -> List Nat) (tail:List Nat) (E:Nat -> (Nat -> Value) -> World -> World -> Prop):Nat -> (Nat -> Value) -> World -> World -> Prop
 | 0,_,w1,w=>w=w1
 | c + 1,v,w1,w=>E c (mask pre (tail.getD c 0) v) w1 w
def Made (P:Program) (o:Oper):Prop:=o.guard=none /\ ∀ (e:Operand -> Value) (w:World),∃ c,(execOp e o).run P w=.ok (.value (.pointer (some ⟨w.heap.size,0,none⟩))) (w.alloc c)
def K0d (news:List Nat) (v:Nat -> Value):Prop:=∀ i ∈ news,∀ k ∈ news,i ≠ k -> v i ≠ v k
structure Inv (ops:Array Oper) (pre:Nat -> List Nat) (Rel:World -> World -> Prop) (D:Nat -> (Nat -> Value) -> World -> Prop) (E:Nat -> (Nat -> Value) -> World -> World -> Prop) (tail:List Nat) (news:List Nat) (a0:Act) (w0:World) (X:Nat -> Bool) (v:Nat -> Value) (w1:World) (c:Nat) (a:Act) (w:World):Prop where
 act:a=act X v ops.toList 0 a0
 rel:Rel w0 w1
 facts:∀ k,X k=true -> k ∉ tail -> D k (mask pre k v) w1
 count:c <= tail.length
 before:∀ i (h:i < tail.length),i < c -> X tail[i]=true
 after:∀ i (h:i < tail.length),c <= i -> X tail[i]=false
 last:Tail pre tail E c v w1 w
 newIn:∀ i ∈ news,X i=true -> ∃ g,v i=.pointer (some ⟨g,0,none⟩) /\ g < w1.heap.size
 newNe:∀ i ∈ news,∀ k ∈ news,i ≠ k -> X i=true -> X k=true -> v i ≠ v k
theorem X0s {j k:Nat} {v:Nat -> Value} {u:Value} (h1:j ≠ k) (h2:j ∉ pre k):mask pre k (upd v j u)=mask pre k v:=by
 funext i
 unfold mask upd
 split
 . rename_i h
   rw [if_neg];rintro rfl;simp only [Bool.or_eq_true,beq_iff_eq,List.contains_iff_mem] at h
   rcases h with h | h
   . exact h1 h
   . exact h2 h
 . rfl
theorem Y5k {l:List Oper} {X:Nat -> Bool} {v:Nat -> Value} {a0:Act} {j:Nat} {o:Oper} {u:Value} (ho:l[j]?=some o) (hX:X j=false)
    (Cx:∀ k o',j < k -> l[k]?=some o' -> X k=true -> o'.dst ≠ o.dst ∨ o.dst=none) :
    (act X v l 0 a0).put o.dst u=act (fun k=>if k=j then true else X k) (upd v j u) l 0 a0:=by
 refine X2k (by rw [put_defers,Q3h,Q3h]) fun t=>?_
 by_cases hd:o.dst=some t
 . rcases Nat.lt_or_ge t a0.tmps.size with hl | hl
   . rw [hd,X0y _ _ _ (by rw [X8a]; exact hl),Z2z _ _ t l 0 a0 j o hl ho hd (by simp) (fun k o' hk Ox F9=>by
      rw [if_neg (by omega)]
      cases hx:X (0 + k) with
      | false=>rfl
      | true =>
        rw [Nat.zero_add] at hx
        rcases Cx k o' hk Ox hx with h | h
        . exact absurd (F9.trans hd.symm) h
        . rw [h] at hd; cases hd)]
     simp [upd]
   . rw [Array.getElem?_eq_none (by rw [Q8s,X8a]; exact hl),Array.getElem?_eq_none (by rw [X8a]; exact hl)]
 . rw [X6d _ _ _ _ hd]
   refine Q6y _ _ _ _ t l 0 a0 a0 rfl rfl fun k o' Ox F9=>?_;have Kz:¬ (0 + k=j):=by
    rw [Nat.zero_add]; rintro rfl;rw [ho] at Ox; cases Ox; exact hd F9
   rw [if_neg Kz];exact ⟨rfl,fun _=>by simp only [upd]; rw [if_neg Kz]⟩
theorem Q3p {a:Array Bool} {j:Nat} (h:j < a.size):a.getD j true=a.getD j false:=by simp [h]
theorem Q3n (n k:Nat):(Array.replicate n false).getD k false=false:=by
 simp only [Array.getD_eq_getD_getElem?,Array.getElem?_replicate]
 split <;> rfl
def left (n:Nat) (listed:Array Bool):Nat:=(List.range n).countP fun i=>!listed.getD i true
theorem X1h {n i:Nat} {listed:Array Bool} (_hn:listed.size=n) (hi:i < n) (h:listed.getD i true=false):left n (listed.setIfInBounds i true) < left n listed:=by
 unfold left;have h2:∀ m,m <= n -> (List.range m).countP (fun k=>!(listed.setIfInBounds i true).getD k true) + (if i < m then 1 else 0)=(List.range m).countP (fun k=>!listed.getD k true):=by
  intro m
  induction m with
  | zero=>intro _; simp
  | succ m ih =>
    intro hm;rw [List.range_succ,List.countP_append,List.countP_append,<- ih (by omega)]
    by_cases lX:m=i
    . subst lX
      have h':listed[m]?.getD true=false:=by simpa using h
      simp [h']
    . rw [List.countP_singleton,List.countP_singleton,getD_set_ne true (fun e=>lX e.symm)]
      split <;> split <;> split <;> omega
 have:=h2 n (Nat.le_refl _);rw [if_pos hi] at this;omega
theorem Y1h (news:List Nat) (tail:List Nat) (kind:Nat -> Kind) {Rel:World -> World -> Prop} {D:Nat -> (Nat -> Value) -> World -> Prop} {E:Nat -> (Nat -> Value) -> World -> World -> Prop}
    {id:Nat} {Q:Exit -> Act -> World -> Prop} {a0:Act} {w:World} (hm:P.follows .mixedOrders=true) (Vj:Ok ops pre)
    (Lj:∀ i (h:i < tail.length),tail[i] < ops.size) (Dj:∀ i k (hi:i < tail.length) (hk:k < tail.length),i < k -> tail[i] ∈ pre tail[k])
    (Cx:∀ j,j < ops.size -> j ∉ tail -> ∀ k ∈ pre j,k ∉ tail) (Nk:∀ j,j < ops.size -> (kind j=.last ↔ j ∈ tail)) (fj:∀ j,j < ops.size -> kind j=.world -> ∀ s ∈ tail,j ∈ pre s)
    (Uj:∀ w,Rel w w) (tz:∀ a b c,Rel a b -> Rel b c -> Rel a c) (Ay:∀ k,k < ops.size -> ∀ v w w',Rel w w' -> D k v w -> D k v w')
    (Yz:∀ j o,ops[j]?=some o -> j ∉ tail -> ∀ v w1,Rel w.drew w1 -> (∀ k ∈ pre j,D k (mask pre k v) w1) -> vc P ops pre Rel D (fun _ _ _=>False) (fun _ _ _=>False) (kind j) o j (act (fun k=>decide (k < j)) v ops.toList 0 a0) v w1)
    (Dv:∀ c (hc:c < tail.length) o,ops[tail[c]]?=some o -> ∀ v w1,Rel w.drew w1 -> (∀ k ∈ pre tail[c],k ∉ tail -> D k (mask pre k v) w1) -> vc P ops pre Rel D (Tail pre tail E c) (E c) .last o tail[c] (act (fun k=>decide (k < tail[c])) v ops.toList 0 a0) v w1)
    (Xj:∀ j ∈ news,j < ops.size /\ kind j=.world /\ ∀ o,ops[j]?=some o -> Made P o) (E3:∀ a b,Rel a b -> a.heap.size <= b.heap.size)
    (iq:∀ v w1 w',Rel w.drew w1 -> K0d news v -> (∀ k,k < ops.size -> k ∉ tail -> D k (mask pre k v) w1) -> Tail pre tail E tail.length v w1 w' -> Q .normal (act (fun _=>true) v ops.toList 0 a0) w') :
    (Code.region id ops true).wp P Q a0 w:=by
 refine wp_region_any hm ?_;have Lx:∀ (X:Nat -> Bool),(∀ j o,ops[j]?=some o -> X j=true -> ∀ e ∈ o.after,Region.binds .any e=true -> X e.on=true) ->
     ∀ j o,ops[j]?=some o -> (∀ e ∈ o.after,Region.binds .any e=true -> X e.on=true) -> ∀ i ∈ pre j,X i=true:=by
  intro X hX j
  induction j using Nat.strongRecOn with
  | _ j ih =>
    intro o ho mq i hi;obtain ⟨e,he,hb,hc⟩:=Vj.pre j o ho i hi
    rcases hc with rfl | hc
    . exact mq e he hb
    . have Uq:=Vj.edge j o ho e he hb
      have hj:j < ops.size:=(Array.getElem?_eq_some_iff.1 ho).1;have Ox:ops[e.on]?=some ops[e.on]:=Array.getElem?_eq_getElem (by omega)
      exact ih e.on Uq _ Ox (hX e.on _ Ox (mq e he hb)) i hc
 have main:∀ (fuel:Nat) (listed:Array Bool) (a:Act) (wc:World),listed.size=ops.size -> left ops.size listed <= fuel ->
     (∀ j o,ops[j]?=some o -> listed.getD j false=true -> ∀ e ∈ o.after,Region.binds .any e=true -> listed.getD e.on false=true) ->
     (∃ v w1 c,Inv ops pre Rel D E tail news a0 w.drew (fun k=>listed.getD k false) v w1 c a wc) -> wpAny P .any ops Q fuel listed a wc:=by
  intro fuel;have Bz:∀ (listed:Array Bool) (a:Act) (wc:World),listed.size=ops.size ->
      (∃ v w1 c,Inv ops pre Rel D E tail news a0 w.drew (fun k=>listed.getD k false) v w1 c a wc) -> Region.ready .any ops listed=[] -> Q .normal a wc:=by
   rintro listed a wc oq ⟨v,w1,c,hI⟩ hr;have mq:∀ j,j < ops.size -> listed.getD j false=true:=by
    intro j
    induction j using Nat.strongRecOn with
    | _ j ih =>
      intro hj;cases hx:listed.getD j false with
      | true=>rfl
      | false =>
        have pq:j ∈ Region.ready .any ops listed:=mem_ready.2 ⟨by rw [Q3p (by omega)]; exact hx,ops[j],Array.getElem?_eq_getElem hj,fun e he hb =>
         have Uq:=Vj.edge j _ (Array.getElem?_eq_getElem hj) e he hb
         ih e.on Uq (by omega)⟩
        rw [hr] at pq;cases pq
   have D3:a=act (fun _=>true) v ops.toList 0 a0:=by
    rw [hI.act];refine X2k (by rw [Q3h,Q3h]) fun t=>Q6y _ _ _ _ t _ 0 _ _ rfl rfl fun k o ho _=>⟨?_,fun _=>rfl⟩
    rw [Nat.zero_add];exact mq k (by simpa using (List.getElem?_eq_some_iff.1 ho).1)
   rw [D3];refine iq v w1 wc hI.rel (fun i hi k hk hne=>hI.newNe i hi k hk hne (mq i (Xj i hi).1) (mq k (Xj k hk).1)) (fun k hk Ax=>hI.facts k (mq k hk) Ax) ?_;have hl:=hI.last;have hc:c=tail.length:=by
    rcases Nat.lt_or_ge c tail.length with h | h
    . have h1:listed.getD tail[c] false=false:=hI.after c h (Nat.le_refl _)
      have h2:=mq _ (Lj c h);rw [h2] at h1; cases h1
    . have:=hI.count; omega
   rw [hc] at hl;exact hl
  induction fuel with
  | zero =>
    intro listed a wc oq zy _ hI;have hr:Region.ready .any ops listed=[]:=by
     refine List.eq_nil_iff_forall_not_mem.2 fun j hj=>?_;obtain ⟨Ez,o,ho,_⟩:=mem_ready.1 hj;have Uq:j < ops.size:=(Array.getElem?_eq_some_iff.1 ho).1;have:=X1h oq Uq Ez;omega
    exact ⟨hr,Bz listed a wc oq hI hr⟩
  | succ fuel ih =>
    intro listed a wc oq zy hcl hI;refine ⟨Bz listed a wc oq hI,fun j hj=>?_⟩;obtain ⟨v,w1,c,hI⟩:=hI;obtain ⟨Ez,o,ho,mq⟩:=mem_ready.1 hj;have Uq:j < ops.size:=(Array.getElem?_eq_some_iff.1 ho).1;have lx:listed.getD j false=false:=by rw [<- Q3p (by omega)]; exact Ez
    have Vz:=Lx (fun k=>listed.getD k false) hcl j o ho mq;have N2:ops.toList[j]?=some o:=by simpa using ho
    have Tx:∀ k,k < ops.size -> listed.getD k false=true -> j ∉ pre k:=by
     intro k hk hx pq;have Ox:ops[k]?=some ops[k]:=Array.getElem?_eq_getElem hk;have h2:listed.getD j false=true:=Lx (fun k=>listed.getD k false) hcl k _ Ox (hcl k _ Ox hx) j pq;rw [lx] at h2; cases h2
    have Uz:∀ k o',j < k -> ops[k]?=some o' -> listed.getD k false=true -> o.apart ops o'=true:=by
     intro k o' hk Ox hx
     rcases Vj.apart j k o o' hk ho Ox with h | h
     . exact h
     . exact absurd h (Tx k (Array.getElem?_eq_some_iff.1 Ox).1 hx)
    have Tz:∀ t ∈ o.looksAt ops,a.tmps[t]?=(act (fun k=>decide (k < j)) v ops.toList 0 a0).tmps[t]?:=by
     intro t ht;rw [hI.act];refine Q6y _ _ _ _ t _ 0 _ _ rfl rfl fun k o' Ox hd=>?_;rw [Nat.zero_add];refine ⟨?_,fun _=>rfl⟩;have yy:ops[k]?=some o':=by simpa using Ox
     rcases Nat.lt_trichotomy k j with hk | hk | hk
     . simp only [hk,decide_true]
       rcases Vj.apart k j o' o hk yy ho with h | h
       . exact absurd ht ((Oper.apart_spec h).1 t hd)
       . exact Vz k h
     . subst hk
       simp [lx]
     . have C3:¬ k < j:=by omega
       simp only [C3,decide_false];cases hx:listed.getD k false with
       | false=>rfl
       | true=>exact absurd ht ((Oper.apart_spec (Uz k o' hk yy hx)).2.2 t hd)
    have zx:execOp a.eval o=execOp (act (fun k=>decide (k < j)) v ops.toList 0 a0).eval o:=execOp_congr o (fun cs b=>Vj.sel j o cs b ho) (eval_congr o Tz);have xy:Region.wanted o (yielded ops a.tmps)=Region.wanted o (yielded ops (act (fun k=>decide (k < j)) v ops.toList 0 a0).tmps):=Q9z o Tz;have Zv:∀ u,a.put o.dst u=act (fun k=>if k=j then true else listed.getD k false) (upd v j u) ops.toList 0 a0:=by
     intro u;rw [hI.act];refine Y5k N2 lx fun k o' hk Ox hx=>?_;cases hd:o.dst with
     | none=>exact .inr rfl
     | some d=>exact .inl ((Oper.apart_spec (Uz k o' hk (by simpa using Ox) hx)).2.1 d hd)
    have hX:(fun k=>(listed.setIfInBounds j true).getD k false)=fun k=>if k=j then true else listed.getD k false:=by
     funext k
     split
     . rename_i hk; subst hk; simp [oq,Uq]
     . rename_i hk; exact getD_set_ne false (Ne.symm hk)
    have Cj:j ∈ tail -> ∃ h:c < tail.length,tail[c]=j:=by
     intro pq;obtain ⟨i,hi,he⟩:=List.getElem_of_mem pq;have Qe:c <= i:=by
      rcases Nat.lt_or_ge i c with h | h
      . have:=hI.before i hi h
        simp only [he] at this;rw [lx] at this; cases this
      . exact h
     have:c=i:=by
      rcases Nat.lt_or_ge c i with h | h
      . have hx:=Vz tail[c] (by rw [<- he]; exact Dj c i (by omega) hi h)
        have h1:=hI.after c (by omega) (Nat.le_refl _)
        rw [hx] at h1; cases h1
      . omega
     subst this;exact ⟨hi,he⟩
    have bq:∀ (u:Value) (w1' wc':World) (c':Nat),Rel w1 w1' -> (j ∉ tail -> D j (mask pre j (upd v j u)) w1') -> (j ∉ tail -> c'=c) -> (j ∈ tail -> c'=c + 1) -> (j ∈ news -> ∃ g,u=.pointer (some ⟨g,0,none⟩) /\ w1.heap.size <= g /\ g < w1'.heap.size) ->
        Tail pre tail E c' (upd v j u) w1' wc' -> wpAny P .any ops Q fuel (listed.setIfInBounds j true) (a.put o.dst u) wc':=by
     intro u w1' wc' c' hrel hD Nx Yx hN hE;refine ih _ _ _ (by simpa using oq) (by have:=X1h oq Uq Ez; omega) (fun k ok Yv hx e he hb=>?_) ⟨upd v j u,w1',c',⟨by rw [hX]; exact Zv u,tz _ _ _ hI.rel hrel,fun k hx Ax=>?_,?_,fun i hi hic=>?_,fun i hi hic=>?_,hE,fun i hi hx=>?_,fun i hi k hk hne hx hy=>?_⟩⟩
     . by_cases Kz:k=j
       . subst Kz
         rw [ho] at Yv;cases Yv;exact getD_set_true (mq e he hb)
       . rw [getD_set_ne false (Ne.symm Kz)] at hx
         exact getD_set_true (hcl k ok Yv hx e he hb)
     . rw [congrFun hX k] at hx
       by_cases Kz:k=j
       . subst Kz; exact hD Ax
       . rw [if_neg Kz] at hx
         have vy:k < ops.size:=by
          rcases Nat.lt_or_ge k ops.size with h | h
          . exact h
          . rw [<- oq] at h; simp [Array.getElem?_eq_none h] at hx
         rw [X0s (Ne.symm Kz) (Tx k vy hx)];exact Ay k vy _ _ _ hrel (hI.facts k hx Ax)
     . by_cases qq:j ∈ tail
       . obtain ⟨h,_⟩:=Cj qq
         rw [Yx qq]; omega
       . rw [Nx qq]; exact hI.count
     . rw [congrFun hX]
       by_cases hij:tail[i]=j
       . rw [if_pos hij]
       . rw [if_neg hij]
         by_cases qq:j ∈ tail
         . obtain ⟨h,he⟩:=Cj qq
           rw [Yx qq] at hic;have:i ≠ c:=fun e=>hij (by subst e; exact he)
           exact hI.before i hi (by omega)
         . rw [Nx qq] at hic; exact hI.before i hi hic
     . rw [congrFun hX]
       by_cases qq:j ∈ tail
       . obtain ⟨h,he⟩:=Cj qq
         rw [Yx qq] at hic;rw [if_neg (fun e=>by
          have h1:=Dj c i h hi (by omega)
          rw [e,he] at h1;obtain ⟨e',kX,Mk,Sw⟩:=Vj.pre j o ho j h1;have hl:=Vj.edge j o ho e' kX Mk;have h2:listed.getD j false=true:=Vz j h1;rw [lx] at h2; cases h2)]
         exact hI.after i hi (by omega)
       . rw [Nx qq] at hic
         rw [if_neg (fun e=>qq (by rw [<- e]; exact List.getElem_mem hi))]
         exact hI.after i hi hic
     . rw [congrFun hX i] at hx
       by_cases hij:i=j
       . subst hij
         obtain ⟨g,hg,_,h2⟩:=hN hi;exact ⟨g,by simp [upd,hg],h2⟩
       . rw [if_neg hij] at hx
         obtain ⟨g,hg,h2⟩:=hI.newIn i hi hx;exact ⟨g,by simp [upd,hij,hg],Nat.lt_of_lt_of_le h2 (E3 _ _ hrel)⟩
     . rw [congrFun hX i] at hx
       rw [congrFun hX k] at hy
       by_cases hij:i=j
       . subst hij
         rw [if_neg (Ne.symm hne)] at hy;obtain ⟨g,hg,h1,_⟩:=hN hi;obtain ⟨g',sk,h2⟩:=hI.newIn k hk hy;have e1:upd v i u i=u:=by simp [upd]
         have e2:upd v i u k=v k:=by simp [upd,Ne.symm hne]
         rw [e1,e2,hg,sk];intro he;injection he with he;injection he with he;injection he with he;omega
       . rw [if_neg hij] at hx
         by_cases Kz:k=j
         . subst Kz
           obtain ⟨g,hg,h1,_⟩:=hN hk;obtain ⟨g',sk,h2⟩:=hI.newIn i hi hx;have e1:upd v k u k=u:=by simp [upd]
           have e2:upd v k u i=v i:=by simp [upd,hij]
           rw [e1,e2,hg,sk];intro he;injection he with he;injection he with he;injection he with he;omega
         . rw [if_neg Kz] at hy
           have e1:upd v j u i=v i:=by simp [upd,hij]
           have e2:upd v j u k=v k:=by simp [upd,Kz]
           rw [e1,e2];exact hI.newNe i hi k hk hne hx hy
    have Tj:j ∉ tail -> ∀ u,Tail pre tail E c (upd v j u) w1 wc:=by
     intro qq u;have hl:=hI.last;cases c with
     | zero=>exact hl
     | succ c =>
       have ig:c < tail.length:=by have:=hI.count; omega
       change E c (mask pre (tail.getD c 0) v) w1 wc at hl;show E c (mask pre (tail.getD c 0) (upd v j u)) w1 wc;have e:tail.getD c 0=tail[c]:=by simp [ig]
       rw [e] at hl ⊢;rw [X0s (fun h=>qq (by rw [h]; exact List.getElem_mem ig)) (Tx _ (Lj c ig) (hI.before c ig (by omega)))]
       exact hl
    have Ew:kind j ≠ .world -> j ∉ news:=fun h1 h2=>h1 (Xj j h2).2.1;have jz:Region.wanted o (yielded ops (act (fun k=>decide (k < j)) v ops.toList 0 a0).tmps)=false -> j ∉ news:=fun h1 h2=>by
     have h3:=((Xj j h2).2.2 o ho).1;simp [Region.wanted,h3] at h1
    unfold wpOp;simp only [ho];rw [xy]
    by_cases qq:j ∈ tail
    . obtain ⟨hc,he⟩:=Cj qq
      have hv:=Dv c hc o (by rw [he]; exact ho) v w1 hI.rel (fun k hk E9=>hI.facts k (Vz k (by rw [<- he]; exact hk)) E9) wc hI.last
      rw [he] at hv;have hT:∀ u w',E c (mask pre j (upd v j u)) w1 w' -> Tail pre tail E (c + 1) (upd v j u) w1 w':=by
       intro u w' h;show E c (mask pre (tail.getD c 0) (upd v j u)) w1 w';have e:tail.getD c 0=j:=by simp [hc,he]
       rw [e]; exact h
      rcases hv with ⟨lq,hg⟩ | ⟨Az,hD⟩
      . rw [if_pos lq]
        refine .inl ?_;unfold Oper.wp;rw [zx];exact Q2z (Q5d (fun u w' h=>bq u w1 w' (c + 1) (Uj _) (fun h=>absurd qq h) (fun h=>absurd qq h) (fun _=>rfl) (fun hn=>absurd hn (Ew (by rw [(Nk j Uq).2 qq]; simp))) (hT u w' h)) hg)
      . rw [if_neg (by rw [Az]; simp)]
        exact bq undef w1 wc (c + 1) (Uj _) (fun h=>absurd qq h) (fun h=>absurd qq h) (fun _=>rfl) (fun hn=>absurd hn (jz Az)) (hT _ _ hD)
    . have Vk:∀ k ∈ pre j,D k (mask pre k v) w1:=fun k hk=>hI.facts k (Vz k hk) (Cx j Uq qq k hk)
      have hv:=Yz j o ho qq v w1 hI.rel Vk;cases hk:kind j with
      | plain =>
        rw [hk] at hv
        rcases hv with ⟨lq,u,px,hD⟩ | ⟨Az,hD⟩
        . rw [if_pos lq]
          refine .inl ?_;unfold Oper.wp;rw [zx,px wc];exact bq u w1 wc c (Uj _) (fun _=>hD) (fun _=>rfl) (fun h=>absurd h qq) (fun hn=>absurd hn (Ew (by rw [hk]; simp))) (Tj qq u)
        . rw [if_neg (by rw [Az]; simp)]
          exact bq undef w1 wc c (Uj _) (fun _=>hD) (fun _=>rfl) (fun h=>absurd h qq) (fun hn=>absurd hn (jz Az)) (Tj qq undef)
      | world =>
        have Rw:c=0:=by
         rcases Nat.eq_zero_or_pos c with h | h
         . exact h
         . have h0:0 < tail.length:=by have:=hI.count; omega
           have hx:=hI.before 0 h0 h;exact absurd (fj j Uq hk tail[0] (List.getElem_mem h0)) (Tx _ (Lj 0 h0) hx)
        subst Rw;have M2:wc=w1:=hI.last;subst M2;rw [hk] at hv
        rcases hv with ⟨lq,hg⟩ | ⟨Az,hD⟩
        . rw [if_pos lq]
          refine .inl ?_;unfold Oper.wp;rw [zx]
          by_cases hn:j ∈ news
          . obtain ⟨cc,px⟩:=((Xj j hn).2.2 o ho).2 (act (fun k=>decide (k < j)) v ops.toList 0 a0).eval wc
            rw [px] at hg ⊢;exact Q2z (bq _ _ _ 0 hg.1 (fun _=>hg.2) (fun _=>rfl) (fun h=>absurd h qq) (fun _=>⟨_,rfl,Nat.le_refl _,by rw [World.size_alloc]; exact Nat.lt_succ_self _⟩) rfl)
          . exact Q2z (Q5d (fun u w' h=>bq u w' w' 0 h.1 (fun _=>h.2) (fun _=>rfl) (fun h=>absurd h qq) (fun h=>absurd h hn) rfl) hg)
        . rw [if_neg (by rw [Az]; simp)]
          exact bq undef wc wc 0 (Uj _) (fun _=>hD) (fun _=>rfl) (fun h=>absurd h qq) (fun hn=>absurd hn (jz Az)) rfl
      | last=>exact absurd ((Nk j Uq).1 hk) qq
 refine main ops.size _ a0 _ (by simp) ?_ (fun j o _ hx=>?_) ⟨fun _=>undef,w.drew,0,?_,Uj _,fun k hx=>?_,Nat.zero_le _,fun i _ h=>absurd h (Nat.not_lt_zero _),fun i _ _=>?_,rfl,fun i _ hx=>?_,fun i _ _ _ _ hx=>?_⟩
 . exact Nat.le_trans (List.countP_le_length) (by simp)
 . have:=Q3n ops.size j
   rw [this] at hx; cases hx
 . refine (X2k (by rw [Q3h]) fun t=>?_)
   have:∀ (l:List Oper) (i:Nat) (a:Act),act (fun k=>(Array.replicate ops.size false).getD k false) (fun _=>undef) l i a=a:=by
    intro l; induction l with
    | nil=>intro i a; rfl
    | cons o l ih=>intro i a; rw [act,ih,Q3n]; rfl
   rw [this]
 . have:=Q3n ops.size k
   rw [this] at hx; cases hx
 . exact Q3n ops.size _
 . have:=Q3n ops.size i
   rw [this] at hx; cases hx
 . have:=Q3n ops.size i
   rw [this] at hx; cases hx
end
end Go.Flow
namespace Go.Flow
open Go.RowKit Go.Tw
structure Spec where
 D:(Nat -> Value) -> World -> Prop
 mono:∀ v w w',Ext w w' -> D v w -> D v w'
def Spec.is (j:Nat) (e:(Nat -> Value) -> Value):Spec:=⟨fun v _=>v j=e v,fun _ _ _ _ h=>h⟩
def Spec.c (j:Nat) (x:Value):Spec:=Spec.is j fun _=>x
def Spec.none:Spec:=⟨fun _ _=>True,fun _ _ _ _ _=>trivial⟩
def lookup {α:Type}:List α -> α -> Nat -> α
 | [],d,_=>d
 | x :: _,_,0=>x
 | _ :: l,d,n + 1=>lookup l d n
def Facts (pre:Nat -> List Nat) (D:Nat -> (Nat -> Value) -> World -> Prop) (v:Nat -> Value) (w:World):List Nat -> Prop -> Prop
 | [],G=>G
 | k :: l,G=>D k (mask pre k v) w -> Facts pre D v w l G
theorem Facts.out {pre:Nat -> List Nat} {D:Nat -> (Nat -> Value) -> World -> Prop} {v:Nat -> Value} {w:World} {G:Prop}:∀ {l:List Nat},Facts pre D v w l G -> (∀ k ∈ l,D k (mask pre k v) w) -> G
 | [],h,_=>h
 | k :: l,h,hf=>Facts.out (h (hf k (by simp))) (fun i hi=>hf i (by simp [hi]))
def Due (P:Program) (pre:Nat -> List Nat) (D:Nat -> (Nat -> Value) -> World -> Prop) (E:(Nat -> Value) -> World -> World -> Prop) (k:Kind) (o:Oper) (j:Nat) (b:Act) (v:Nat -> Value) (w1 w:World):Prop :=
 match k with
 | .plain=>∃ u,(∀ w,(execOp b.eval o).run P w=.ok (.value u) w) /\ D j (mask pre j (upd v j u)) w1
 | .world=>∀ K:Value -> World -> Prop,(∀ u w',Ext w1 w' -> D j (mask pre j (upd v j u)) w' -> K u w') -> gives P K ((execOp b.eval o).run P w1)
 | .last=>∀ K:Value -> World -> Prop,(∀ u w',E (mask pre j (upd v j u)) w1 w' -> K u w') -> gives P K ((execOp b.eval o).run P w)
def Pass (pre:Nat -> List Nat) (D:Nat -> (Nat -> Value) -> World -> Prop) (E:(Nat -> Value) -> World -> World -> Prop) (k:Kind) (j:Nat) (v:Nat -> Value) (w1 w:World):Prop :=
 match k with
 | .last=>E (mask pre j (upd v j undef)) w1 w
 | _=>D j (mask pre j (upd v j undef)) w1
def Guarded (ops:Array Oper) (o:Oper) (b:Act) (T F:Prop):Prop :=
 match o.guard with
 | none=>T
 | some _=>(Region.wanted o (yielded ops b.tmps)=true /\ T) ∨ (Region.wanted o (yielded ops b.tmps)=false /\ F)
theorem J9d {P:Program} {ops:Array Oper} {pre:Nat -> List Nat} {D:Nat -> (Nat -> Value) -> World -> Prop} {T E:(Nat -> Value) -> World -> World -> Prop} {k:Kind} {o:Oper} {j:Nat} {b:Act} {v:Nat -> Value} {w1:World}
    (hk:k ≠ .last) (h:Guarded ops o b (Due P pre D E k o j b v w1 w1) (Pass pre D E k j v w1 w1)):vc P ops pre Ext D T E k o j b v w1:=by
 have h':(Region.wanted o (yielded ops b.tmps)=true /\ Due P pre D E k o j b v w1 w1) ∨ (Region.wanted o (yielded ops b.tmps)=false /\ Pass pre D E k j v w1 w1):=by
  unfold Guarded at h;cases hg:o.guard with
  | none=>rw [hg] at h; exact .inl ⟨by simp [Region.wanted,hg],h⟩
  | some g=>rw [hg] at h; exact h
 cases k with
 | plain=>exact h'.imp (fun ⟨a,u,b,c⟩=>⟨a,u,b,c⟩) id
 | world=>exact h'.imp (fun ⟨a,b⟩=>⟨a,b _ fun u w' h1 h2=>⟨h1,h2⟩⟩) id
 | last=>exact absurd rfl hk
theorem J5j {P:Program} {ops:Array Oper} {pre:Nat -> List Nat} {D:Nat -> (Nat -> Value) -> World -> Prop} {T E:(Nat -> Value) -> World -> World -> Prop} {o:Oper} {j:Nat} {b:Act} {v:Nat -> Value} {w1:World}
    (h:∀ w,T v w1 w -> Guarded ops o b (Due P pre D E .last o j b v w1 w) (Pass pre D E .last j v w1 w)):vc P ops pre Ext D T E .last o j b v w1:=by
 intro w hT;have h:=h w hT;have h':(Region.wanted o (yielded ops b.tmps)=true /\ Due P pre D E .last o j b v w1 w) ∨ (Region.wanted o (yielded ops b.tmps)=false /\ Pass pre D E .last j v w1 w):=by
  unfold Guarded at h;cases hg:o.guard with
  | none=>rw [hg] at h; exact .inl ⟨by simp [Region.wanted,hg],h⟩
  | some g=>rw [hg] at h; exact h
 exact h'.imp (fun ⟨a,b⟩=>⟨a,b _ fun u w' h1=>h1⟩) id
def X7x (P:Program) (ops:Array Oper) (pre:Nat -> List Nat) (tail:List Nat) (w0:World) (D:Nat -> (Nat -> Value) -> World -> Prop):List ((Nat -> Value) -> World -> World -> Prop) -> ((Nat -> Value) -> World -> World -> Prop) -> List Oper -> List Kind -> List Nat -> ((Nat -> Value) -> Act) -> Prop
 | El,T,o :: l,k :: kl,j :: jl,b =>
   match k,El with
   | .last,E :: El=>(∀ v w1,Ext w0 w1 -> Facts pre D v w1 ((pre j).filter fun i=>!tail.contains i) (∀ w,T v w1 w -> ∀ bb,bb=b v -> Guarded ops o bb (Due P pre D E .last o j bb v w1 w) (Pass pre D E .last j v w1 w))) /\
      X7x P ops pre tail w0 D El (fun v w1 w=>E (mask pre j v) w1 w) l kl jl (fun v=>(b v).put o.dst (v j))
   | .last,[]=>False
   | k,El=>(∀ v w1,Ext w0 w1 -> Facts pre D v w1 (pre j) (Guarded ops o (b v) (Due P pre D (fun _ _ _=>False) k o j (b v) v w1 w1) (Pass pre D (fun _ _ _=>False) k j v w1 w1))) /\ X7x P ops pre tail w0 D El T l kl jl (fun v=>(b v).put o.dst (v j))
 | _,_,_,_,_,_=>True
def X9n:Kind -> Bool | .world=>true | _=>false
def isLast:Kind -> Bool | .last=>true | _=>false
def okL (ops:List Oper) (pl:List (List Nat)) (kl:List Kind) (tail:List Nat) (n:Nat):Bool :=
 okB ops.toArray (lookup pl []) && kl.length == ops.length && (tail == (List.range ops.length).filter fun j=>isLast (lookup kl .plain j)) && (n == tail.length) &&
 ((List.range tail.length).all fun k=>(List.range k).all fun i=>(lookup pl [] (tail.getD k 0)).contains (tail.getD i 0)) &&
 ((List.range ops.length).all fun j=>isLast (lookup kl .plain j) || ((lookup pl [] j).all fun k=>!tail.contains k)) &&
 ((List.range ops.length).all fun j=>!X9n (lookup kl .plain j) || (tail.all fun s=>(lookup pl [] s).contains j))
theorem Q5c (v:Nat -> Value):∀ (l:List Oper) (i j:Nat) (a:Act),act (fun k=>decide (k < i + j)) v l i a=act (fun _=>true) v (l.take j) i a
 | [],i,j,a=>by simp [act]
 | o :: l,i,0,a=>by
   simp only [Nat.add_zero,List.take_zero,act];rw [if_neg (by simp)]
   have:∀ (l:List Oper) (k:Nat) (a:Act),i <= k -> act (fun k=>decide (k < i)) v l k a=a:=by
    intro l
    induction l with
    | nil=>intro k a _; rfl
    | cons o l ih=>intro k a hk; rw [act,if_neg (by simp; omega)]; exact ih (k + 1) a (by omega)
   exact this l (i + 1) a (by omega)
 | o :: l,i,j + 1,a=>by
   rw [List.take_succ_cons,act,act,if_pos (by simp),if_pos rfl]
   have:=Q5c v l (i + 1) j (a.put o.dst (v i))
   rwa [show i + 1 + j=i + (j + 1) from by omega] at this
theorem Z1y {P:Program} {ops:Array Oper} {pre:Nat -> List Nat} {tail:List Nat} {w0:World} {D:Nat -> (Nat -> Value) -> World -> Prop} :
    ∀ (l:List Oper) (kl:List Kind) (El:List ((Nat -> Value) -> World -> World -> Prop)) (T:(Nat -> Value) -> World -> World -> Prop) (i:Nat) (b:(Nat -> Value) -> Act),kl.length=l.length ->
     X7x P ops pre tail w0 D El T l kl (List.range' i l.length) b -> ∀ j o,l[j]?=some o -> lookup kl .plain j ≠ .last -> ∀ v w1,Ext w0 w1 ->
     (∀ n ∈ pre (i + j),D n (mask pre n v) w1) -> vc P ops pre Ext D (fun _ _ _=>False) (fun _ _ _=>False) (lookup kl .plain j) o (i + j) (act (fun _=>true) v (l.take j) i (b v)) v w1
 | [],_,_,_,_,_,_,_,j,_,h,_,_,_,_,_=>by simp at h
 | o :: l,[],_,_,_,_,hk,_,_,_,_,_,_,_,_,_=>by simp at hk
 | o :: l,k :: kl,El,T,i,b,hk,h,j,o',hj,hne,v,w1,hx,hf=>by
   rw [List.length_cons,List.range'_succ] at h;cases j with
   | zero =>
     simp only [List.getElem?_cons_zero,Option.some.injEq] at hj;subst hj;simp only [lookup] at hne ⊢;cases k with
     | last=>exact absurd rfl hne
     | plain=>simp only [X7x] at h; simpa [act] using J9d hne ((h.1 v w1 hx).out (by simpa using hf))
     | world=>simp only [X7x] at h; simpa [act] using J9d hne ((h.1 v w1 hx).out (by simpa using hf))
   | succ j =>
     have Wv:∃ El T,X7x P ops pre tail w0 D El T l kl (List.range' (i + 1) l.length) (fun v=>(b v).put o.dst (v i)):=by
      cases k with
      | last=>cases El with
        | nil=>simp only [X7x] at h
        | cons E El=>simp only [X7x] at h; exact ⟨_,_,h.2⟩
      | plain=>simp only [X7x] at h; exact ⟨_,_,h.2⟩
      | world=>simp only [X7x] at h; exact ⟨_,_,h.2⟩
     obtain ⟨El',T',h'⟩:=Wv;have:=Z1y l kl El' T' (i + 1) _ (by simpa using hk) h' j o' (by simpa using hj) (by simpa [lookup] using hne) v w1 hx (by rwa [show i + 1 + j=i + (j + 1) from by omega])
     rw [show i + 1 + j=i + (j + 1) from by omega] at this
     simpa [act,lookup] using this
def lasts:List Kind -> Nat -> List Nat
 | [],_=>[]
 | .last :: l,i=>i :: lasts l (i + 1)
 | _ :: l,i=>lasts l (i + 1)
theorem X8d:∀ (kl:List Kind) (i:Nat),lasts kl i=(List.range' i kl.length).filter fun j=>isLast (lookup kl .plain (j - i))
 | [],_=>rfl
 | k :: l,i=>by
   rw [List.length_cons,List.range'_succ,List.filter_cons,Nat.sub_self];have e:((List.range' (i + 1) l.length).filter fun j=>isLast (lookup (k :: l) .plain (j - i)))=(List.range' (i + 1) l.length).filter fun j=>isLast (lookup l .plain (j - (i + 1))):=by
    refine List.filter_congr fun j hj=>?_;have Uw:=(List.mem_range'_1.1 hj).1;rw [show j - i=(j - (i + 1)) + 1 from by omega]; rfl
   rw [e,<- X8d l (i + 1)];cases k <;> simp [lasts,lookup,isLast]
theorem X0k {P:Program} {ops:Array Oper} {pre:Nat -> List Nat} {tail:List Nat} {w0:World} {D:Nat -> (Nat -> Value) -> World -> Prop} (E:Nat -> (Nat -> Value) -> World -> World -> Prop) :
    ∀ (l:List Oper) (kl:List Kind) (El:List ((Nat -> Value) -> World -> World -> Prop)) (i:Nat) (b:(Nat -> Value) -> Act) (c0:Nat),kl.length=l.length -> tail.drop c0=lasts kl i -> (∀ n,n < (lasts kl i).length -> El[n]?=some (E (c0 + n))) ->
     X7x P ops pre tail w0 D El (Tail pre tail E c0) l kl (List.range' i l.length) b -> ∀ n,n < (lasts kl i).length -> ∀ j o,tail[c0 + n]?=some (i + j) -> l[j]?=some o -> ∀ v w1,Ext w0 w1 ->
     (∀ m ∈ pre (i + j),m ∉ tail -> D m (mask pre m v) w1) -> vc P ops pre Ext D (Tail pre tail E (c0 + n)) (E (c0 + n)) .last o (i + j) (act (fun _=>true) v (l.take j) i (b v)) v w1
 | [],[],_,_,_,_,_,_,_,_,n,h,_,_,_,_,_,_,_,_=>by simp [lasts] at h
 | [],_ :: _,_,_,_,_,hk,_,_,_,_,_,_,_,_,_,_,_,_,_=>by simp at hk
 | o :: l,[],_,_,_,_,hk,_,_,_,_,_,_,_,_,_,_,_,_,_=>by simp at hk
 | o :: l,k :: kl,El,i,b,c0,hk,pw,hE,h,n,hn,j,o',ht,hj,v,w1,hx,hf=>by
   rw [List.length_cons,List.range'_succ] at h;have Yj:∀ (kl:List Kind) (i:Nat),∀ x ∈ lasts kl i,i <= x:=by
    intro kl
    induction kl with
    | nil=>intro i x hx; simp [lasts] at hx
    | cons k kl ih => intro i x hx; cases k <;> simp only [lasts, List.mem_cons] at hx
                      . have:=ih _ _ hx; omega
                      . have:=ih _ _ hx; omega
                      . rcases hx with rfl | hx
                        . exact Nat.le_refl _
                        . have:=ih _ _ hx; omega
   have Eg:(lasts (k :: kl) i)[n]?=some (i + j):=by rw [<- pw,List.getElem?_drop]; exact ht
   have jX:k ≠ .last -> ∃ j',j=j' + 1 /\ (lasts kl (i + 1))[n]?=some (i + 1 + j'):=by
    intro hne;have e:lasts (k :: kl) i=lasts kl (i + 1):=by cases k <;> first | rfl | exact absurd rfl hne
    rw [e] at Eg;have:=Yj kl (i + 1) _ (List.mem_of_getElem? Eg);exact ⟨j - 1,by omega,by rw [Eg]; congr 1; omega⟩
   cases k with
   | plain =>
     obtain ⟨j',rfl,DW⟩:=jX (by simp)
     simp only [X7x] at h;have:=X0k E l kl El (i + 1) _ c0 (by simpa using hk) (by simpa [lasts] using pw) (by simpa [lasts] using hE) h.2 n (by simpa [lasts] using hn) j' o' (by rw [ht]; congr 1; omega) (by simpa using hj) v w1 hx (by rwa [show i + 1 + j'=i + (j' + 1) from by omega])
     rw [show i + 1 + j'=i + (j' + 1) from by omega] at this
     simpa [act] using this
   | world =>
     obtain ⟨j',rfl,DW⟩:=jX (by simp)
     simp only [X7x] at h;have:=X0k E l kl El (i + 1) _ c0 (by simpa using hk) (by simpa [lasts] using pw) (by simpa [lasts] using hE) h.2 n (by simpa [lasts] using hn) j' o' (by rw [ht]; congr 1; omega) (by simpa using hj) v w1 hx (by rwa [show i + 1 + j'=i + (j' + 1) from by omega])
     rw [show i + 1 + j'=i + (j' + 1) from by omega] at this
     simpa [act] using this
   | last =>
     cases El with
     | nil=>simp only [X7x] at h
     | cons E0 El =>
       have e0:E0=E c0:=by have:=hE 0 (by simp [lasts]); simpa using this
       subst e0;simp only [X7x] at h;have CW:tail.getD c0 0=i:=by
        have:(tail.drop c0)[0]?=some i:=by rw [pw]; rfl
        rw [List.getElem?_drop] at this
        simpa using congrArg (fun x=>x.getD 0) this
       cases n with
       | zero =>
         have hj0:j=0:=by
          have:(lasts (.last :: kl) i)[0]?=some i:=rfl;rw [this] at Eg; simp at Eg; omega
         subst hj0;simp only [List.getElem?_cons_zero,Option.some.injEq] at hj;subst hj;have:=J5j (h:=fun w hT=>(h.1 v w1 hx).out (fun m hm=>by
          simp only [List.mem_filter,Bool.not_eq_true',List.contains_eq_mem,decide_eq_false_iff_not] at hm;exact hf m (by simpa using hm.1) hm.2) w hT _ rfl)
         simpa [act] using this
       | succ n =>
         have pq:(lasts kl (i + 1))[n]?=some (i + j):=by simpa [lasts] using Eg
         have D9:=Yj kl (i + 1) _ (List.mem_of_getElem? pq);obtain ⟨j',rfl⟩:∃ j',j=j' + 1:=⟨j - 1,by omega⟩
         have hT:(fun v w1 w=>E c0 (mask pre i v) w1 w)=Tail pre tail E (c0 + 1):=by
          funext v w1 w
          show _=E c0 (mask pre (tail.getD c0 0) v) w1 w;rw [CW]
         have h2:=h.2;rw [hT] at h2;have:=X0k E l kl El (i + 1) _ (c0 + 1) (by simpa using hk) (by
             have e:tail.drop (c0 + 1)=(tail.drop c0).drop 1:=by rw [List.drop_drop]
             rw [e,pw]; rfl) (fun m hm=>by
             have:=hE (m + 1) (by simpa [lasts] using hm)
             rw [show c0 + 1 + m=c0 + (m + 1) from by omega]
             simpa using this) h2 n (by simpa [lasts] using hn) j' o' (by rw [show c0 + 1 + n=c0 + (n + 1) from by omega,ht]; congr 1; omega) (by simpa using hj) v w1 hx (by rwa [show i + 1 + j'=i + (j' + 1) from by omega])
         rw [show i + 1 + j'=i + (j' + 1) from by omega,show c0 + 1 + n=c0 + (n + 1) from by omega] at this
         simpa [act] using this
def acts (v:Nat -> Value):List Oper -> List Nat -> Act -> Act
 | o :: l,j :: jl,a=>acts v l jl (a.put o.dst (v j))
 | _,_,a=>a
theorem Y4u (v:Nat -> Value):∀ (l:List Oper) (i:Nat) (a:Act),acts v l (List.range' i l.length) a=act (fun _=>true) v l i a
 | [],_,_=>rfl
 | o :: l,i,a=>by rw [List.length_cons,List.range'_succ,acts,act,Y4u v l]; rfl
def All (pre:Nat -> List Nat) (D:Nat -> (Nat -> Value) -> World -> Prop) (v:Nat -> Value) (w:World) (tail:List Nat):List Nat -> Prop -> Prop
 | [],G=>G
 | j :: l,G=>if tail.contains j=true then All pre D v w tail l G else D j (mask pre j v) w -> All pre D v w tail l G
theorem All.out {pre:Nat -> List Nat} {D:Nat -> (Nat -> Value) -> World -> Prop} {v:Nat -> Value} {w:World} {tail:List Nat} {G:Prop}:∀ {l:List Nat},All pre D v w tail l G -> (∀ k ∈ l,k ∉ tail -> D k (mask pre k v) w) -> G
 | [],h,_=>h
 | j :: l,h,hf=>by
   unfold All at h
   split at h
   . exact All.out h (fun k hk=>hf k (by simp [hk]))
   . rename_i hj
     exact All.out (h (hf j (by simp) (by simpa using hj))) (fun k hk=>hf k (by simp [hk]))
def endOf (pre:Nat -> List Nat) (v:Nat -> Value) (w1 w:World):List Nat -> List ((Nat -> Value) -> World -> World -> Prop) -> Prop
 | [j],[E]=>E (mask pre j v) w1 w
 | _ :: jl,_ :: El=>endOf pre v w1 w jl El
 | _,_=>w=w1
section
variable {P:Program} {id:Nat} {Q:Exit -> Act -> World -> Prop} {a0:Act} {w:World} {ops:List Oper}
theorem J5i (news:List Nat) (kl:List Kind) (jl:List Nat) (pl:List (List Nat)) (tail:List Nat) (Dl:List Spec) (El:List ((Nat -> Value) -> World -> World -> Prop))
    (hm:P.follows .mixedOrders=true) (Qj:jl=List.range' 0 ops.length) (Vj:okL ops pl kl tail El.length=true)
    (Yz:X7x P ops.toArray (lookup pl []) tail w.drew (fun k=>(lookup Dl .none k).D) El (fun _ w1 w=>w=w1) ops kl jl (fun _=>a0))
    (Xj:news.all (fun j=>decide (j < ops.length) && X9n (lookup kl .plain j))=true) (iX:∀ j ∈ news,∀ o,ops[j]?=some o -> Made P o)
    (iq:∀ v w1,Ext w.drew w1 -> K0d news v -> All (lookup pl []) (fun k=>(lookup Dl .none k).D) v w1 tail jl (∀ w',endOf (lookup pl []) v w1 w' tail El -> Q .normal (acts v ops jl a0) w')) :
    (Code.region id ops.toArray true).wp P Q a0 w:=by
 subst Qj;simp only [Y4u] at iq;simp only [okL,Bool.and_eq_true,List.all_eq_true,List.mem_range,beq_iff_eq,Bool.or_eq_true,Bool.not_eq_true',List.contains_eq_mem,decide_eq_true_eq,decide_eq_false_iff_not] at Vj;obtain ⟨⟨⟨⟨⟨⟨Vj,Dq⟩,Lj⟩,hn⟩,Dj⟩,Cx⟩,fj⟩:=Vj;have pq:∀ j,j ∈ tail ↔ j < ops.length /\ isLast (lookup kl .plain j)=true:=by intro j; rw [Lj,List.mem_filter,List.mem_range]
 have hk:∀ j,isLast (lookup kl .plain j)=true ↔ lookup kl .plain j=.last:=by intro j; cases lookup kl .plain j <;> simp [isLast]
 have dg:lasts kl 0=tail:=by
  rw [X8d,Lj,Dq,List.range_eq_range'];rfl
 have gX:∀ n,n < (lasts kl 0).length -> El[n]?=some ((fun c=>(El[c]?).getD fun _ _ _=>True) (0 + n)):=by
  intro n d6;rw [dg,<- hn] at d6;simp [d6]
 have Dg:∀ v w1 w',Tail (lookup pl []) tail (fun c=>(El[c]?).getD fun _ _ _=>True) tail.length v w1 w' -> endOf (lookup pl []) v w1 w' tail El:=by
  intro v w1 w' h;have gen:∀ (tl:List Nat) (el:List ((Nat -> Value) -> World -> World -> Prop)),el.length=tl.length -> (tl=[] -> w'=w1) -> (∀ (hne:tl ≠ []),((el[tl.length - 1]?).getD fun _ _ _=>True) (mask (lookup pl []) (tl.getD (tl.length - 1) 0) v) w1 w') -> endOf (lookup pl []) v w1 w' tl el:=by
   intro tl
   induction tl with
   | nil=>intro el _ h0 _; cases el <;> exact h0 rfl
   | cons j tl ih =>
     intro el hl _ h1;cases el with
     | nil=>simp at hl
     | cons E el =>
       cases tl with
       | nil=>cases el with
         | nil=>simpa [endOf] using h1 (by simp)
         | cons _ _=>simp at hl
       | cons j' tl=>cases el with
         | nil=>simp at hl
         | cons E' el =>
           show endOf _ v w1 w' (j' :: tl) (E' :: el);exact ih _ (by simpa using hl) (fun h=>by simp at h) (fun _=>by simpa using h1 (by simp))
  refine gen tail El hn.symm.symm (fun h0=>?_) (fun hne=>?_)
  . rw [h0] at h; exact h
  . obtain ⟨m,hm⟩:∃ m,tail.length=m + 1:=⟨tail.length - 1,by have:=List.length_pos_iff.2 hne; omega⟩
    rw [hm] at h;rw [hm,Nat.add_sub_cancel];exact h
 refine Y1h news tail (lookup kl .plain) (Rel:=Ext) (D:=fun k=>(lookup Dl .none k).D) (E:=fun c=>(El[c]?).getD fun _ _ _=>True) hm (J6m Vj)
  (fun i hi=>by simpa using ((pq _).1 (List.getElem_mem hi)).1) (fun i k hi hk hik=>by have:=Dj k hk i hik; simpa [hi,hk] using this)
  (fun j Qj nw k hk'=>?_) (fun j Qj=>?_) (fun j Qj hjw s hs=>?_)
  Ext.refl (fun _ _ _=>Ext.trans) (fun k _ v w w' hx hd=>(lookup Dl .none k).mono v w w' hx hd) (fun j o ho nw v w1 hx hf=>?_) (fun c hc o ho v w1 hx hf=>?_) (fun j hj=>?_) (fun _ _ h=>h.size) (fun v w1 w' hx hnw hf hE=>?_)
 . rcases Cx j (by simpa using Qj) with h | h
   . exact absurd ((pq j).2 ⟨by simpa using Qj,h⟩) nw
   . exact h k hk'
 . rw [pq,hk]; simp at Qj; simp [Qj]
 . rcases fj j (by simpa using Qj) with h | h
   . rw [hjw] at h; simp [X9n] at h
   . exact h s hs
 . have Qj:j < ops.length:=by simpa using (Array.getElem?_eq_some_iff.1 ho).1
   have:=Z1y ops kl El _ 0 _ Dq Yz j o (by simpa using ho) (fun h=>nw ((pq j).2 ⟨Qj,(hk j).2 h⟩)) v w1 hx (by simpa using hf)
   rw [Nat.zero_add] at this;have e:=Q5c v ops 0 j a0;rw [Nat.zero_add] at e
   simpa [e] using this
 . have:=X0k (fun c=>(El[c]?).getD fun _ _ _=>True) ops kl El 0 _ 0 Dq (by rw [dg]; rfl) gX Yz c (by rw [dg]; exact hc) tail[c] o (by simp [hc]) (by simpa using ho) v w1 hx (by simpa using hf)
   rw [Nat.zero_add,Nat.zero_add] at this;have e:=Q5c v ops 0 tail[c] a0;rw [Nat.zero_add] at e
   simpa [e] using this
 . have h1:=List.all_eq_true.1 Xj j hj
   simp only [Bool.and_eq_true,decide_eq_true_eq] at h1;refine ⟨by simpa using h1.1,?_,fun o ho=>iX j hj o (by simpa using ho)⟩
   have h2:=h1.2;cases hk:lookup kl .plain j <;> rw [hk] at h2 <;> first | rfl | cases h2
 . exact (iq v w1 hx hnw).out (fun k hk Ax=>hf k (by simpa using hk) Ax) w' (Dg v w1 w' hE)
theorem region (kl:List Kind) (jl:List Nat) (pl:List (List Nat)) (tail:List Nat) (Dl:List Spec) (El:List ((Nat -> Value) -> World -> World -> Prop))
    (hm:P.follows .mixedOrders=true) (Qj:jl=List.range' 0 ops.length) (Vj:okL ops pl kl tail El.length=true)
    (Yz:X7x P ops.toArray (lookup pl []) tail w.drew (fun k=>(lookup Dl .none k).D) El (fun _ w1 w=>w=w1) ops kl jl (fun _=>a0))
    (iq:∀ v w1,Ext w.drew w1 -> All (lookup pl []) (fun k=>(lookup Dl .none k).D) v w1 tail jl (∀ w',endOf (lookup pl []) v w1 w' tail El -> Q .normal (acts v ops jl a0) w')) :
    (Code.region id ops.toArray true).wp P Q a0 w :=
 J5i [] kl jl pl tail Dl El hm Qj Vj Yz rfl (fun _ h=>nomatch h) (fun v w1 hx _=>iq v w1 hx)
theorem J6f (kl:List Kind) (jl:List Nat) (pl:List (List Nat)) (Dl:List Spec)
    (hm:P.follows .mixedOrders=true) (Qj:jl=List.range' 0 ops.length) (Vj:okL ops pl kl [] 0=true)
    (Yz:X7x P ops.toArray (lookup pl []) [] w.drew (fun k=>(lookup Dl .none k).D) [] (fun _ w1 w=>w=w1) ops kl jl (fun _=>a0))
    (iq:∀ v w1,Ext w.drew w1 -> All (lookup pl []) (fun k=>(lookup Dl .none k).D) v w1 [] jl (Q .normal (acts v ops jl a0) w1)) :
    (Code.region id ops.toArray true).wp P Q a0 w :=
 region kl jl pl [] Dl [] hm Qj Vj Yz (fun v w1 hx=>by
  have:=iq v w1 hx;have gen:∀ (jl:List Nat) (G G':Prop),(G -> G') -> All (lookup pl []) (fun k=>(lookup Dl .none k).D) v w1 [] jl G -> All (lookup pl []) (fun k=>(lookup Dl .none k).D) v w1 [] jl G':=by
   intro jl
   induction jl with
   | nil=>intro G G' h hG; exact h hG
   | cons j jl ih =>
     intro G G' h hG;simp only [All,List.contains_nil,Bool.false_eq_true,if_false] at hG ⊢;exact fun hd=>ih G G' h (hG hd)
  exact gen _ _ _ (fun h w' (hE:w'=w1)=>hE ▸ h) this)
end
end Go.Flow
namespace Go.Tw
open Go.RowKit
def Q0q {α:Type} (w:World) (base:Nat) (e:TypeId) (enc:α -> Value) (v:Value) (l:List α):Prop:=w.ownsRow base e 1 v l.length (l.map enc)
theorem Q0q.nil {α:Type} (w:World) (base:Nat) (e:TypeId) (enc:α -> Value):Q0q w base e enc (.slice none 0 0) []:=World.ownsRow_nil w base e 1
theorem Q0q.row {α:Type} {w:World} {base:Nat} {e:TypeId} {enc:α -> Value} {v:Value} {l:List α} (h:Q0q w base e enc v l) (hl:l.length <= 17592186043904) (c:Nat -> Value)
    (hc:∀ k (hk:k < l.length),c k=enc l[k]):Row w v l.length 1 c:=by
 obtain ⟨_,h2⟩:=h
 rcases h2 with ⟨rfl,h0⟩ | ⟨g,Qq,cur,rfl,_,hg,Kq,_,_,nx⟩
 . exact ⟨none,0,by rw [h0],hl,by omega,fun j hj=>by omega⟩
 . refine ⟨some ⟨g,0,none⟩,Qq,rfl,hl,Kq,fun j hj=>⟨g,0,rfl,?_⟩⟩
   have Uw:j < l.length:=by omega
   rw [Nat.zero_add];have h1:=congrArg (fun l=>l[j]?) nx;simp only [Nat.mul_one,List.getElem?_take,Uw,if_true,List.getElem?_map,List.getElem?_eq_getElem Uw,Option.map_some] at h1;simp only [World.cell?,hg,hc j Uw]
   simpa using h1
theorem Q0q.rows {α:Type} {w:World} {base:Nat} {e:TypeId} {enc:α -> Value} {v:Value} {l:List α} {R:World -> (Nat -> Value) -> α -> Prop} (h:Q0q w base e enc v l) (hl:l.length <= 17592186043904)
    (hR:∀ x ∈ l,R w (fun _=>enc x) x) (Fg:∀ c c' x,c 0=c' 0 -> R w c x -> R w c' x):Rows 1 R w v l:=by
 refine ⟨fun k=>((l.map enc)[k]?).getD undef,h.row hl _ (fun k hk=>by simp [hk]),fun j hj=>Fg _ _ _ ?_ (hR _ (List.getElem_mem hj))⟩
 simp [hj]
theorem Q0q.ints {w:World} {base:Nat} {e:TypeId} {v:Value} {l:List Int} (h:Q0q w base e (Value.int .i64) v l) (hl:l.length <= 17592186043904):Q0g w v l :=
 h.rows hl (fun _ _=>rfl) (fun _ _ _ h h'=>h ▸ h')
theorem Q0q.bools {w:World} {base:Nat} {e:TypeId} {v:Value} {l:List Bool} (h:Q0q w base e Value.bool v l) (hl:l.length <= 17592186043904):Q1v w v l :=
 h.rows hl (fun _ _=>rfl) (fun _ _ _ h h'=>h ▸ h')
theorem Q0q.below {α:Type} {w w':World} {base:Nat} {e:TypeId} {enc:α -> Value} {v:Value} {l:List α} (h:Q0q w base e enc v l) (hx:Ext w w'):Q0q w' base e enc v l:=by
 obtain ⟨h1,h2⟩:=h;refine ⟨h1,?_⟩
 rcases h2 with h2 | ⟨g,Qq,cur,hv,hb,hg,r⟩
 . exact .inl h2
 . refine .inr ⟨g,Qq,cur,hv,hb,?_,r⟩
   rw [Below.block hx g (Array.getElem?_eq_some_iff.1 hg).1]; exact hg
theorem Q0q.snoc {α:Type} {w:World} {base:Nat} {e:TypeId} {enc:α -> Value} {v:Value} {l:List α} {x:α} (h:w.ownsRow base e 1 v (l.length + 1) (l.map enc ++ [enc x])):Q0q w base e enc v (l ++ [x]):=by
 unfold Q0q; simpa using h
theorem Q3r {w wr w':World} {v:Value} {base:Nat} {e:TypeId} {n size:Nat} {xs:List Value} {o:Obj} (hx:Ext w wr) (Yq:wr.ownsRow base e size v n xs) (hb:w.heap.size <= base) (hg:(wr.alloc o).grownBy w' v.ownBlock):Ext w w' :=
 Below.grown (hx.alloc o) hg (by have:=hx.size; simp; omega) (fun k hk=>by have:=(Yq.lt k hk).1; omega)
theorem Q5y (w:World) (x:Value) (e:TypeId):∀ j u,[x][j]?=some u -> (w.alloc (.cells #[x] e)).cell? ((⟨w.heap.size,0,none⟩:Addr).add j)=some u:=by
 intro j u h;cases j with
 | zero =>
   simp only [List.getElem?_cons_zero,Option.some.injEq] at h;subst h;show (w.alloc (.cells #[x] e)).cell? ⟨w.heap.size,0,none⟩=some x;rw [World.cell?_alloc_at _ _ _ _ rfl];rfl
 | succ j=>simp at h
theorem Q3j {l:List Int} {k:Nat} (h:k < l.length):l.drop k=ix l k :: l.drop (k + 1):=by rw [Q5g h]; exact List.drop_eq_getElem_cons h
end Go.Tw
namespace Go.Tw
open Go.RowKit Go.Flow
theorem Q0e {P:Program} {f:FuncId} {args:Array Value} {w:World} {K:Value -> World -> Prop} {R:Ending -> World -> Prop} (h:Calls P f args w R) (hk:∀ e w',R e w' -> ∃ u,e=.returned u /\ K u w') :
    gives P K (.ok (.enter f args) w):=h.mono hk
theorem X4t (w:World) (cs:Array Value) (e:TypeId) (i:Nat):(w.alloc (.cells cs e)).cell? ⟨w.heap.size,i,none⟩=cs[i]?:=by
 rw [World.cell?_alloc_at _ _ _ _ rfl]
theorem Ext.box (w:World) (o:Obj):Ext w (w.alloc o):=(Ext.refl w).alloc o
theorem Ext.drewN {a b:World} (h:Ext a b) (n:Nat):Ext a (b.drewN n):=by
 obtain ⟨h1,h2,h3,h4,h5⟩:=h;exact ⟨h1,h2,h3,h4,h5⟩
theorem addr_add (b off j:Nat):(⟨b,off,none⟩:Addr).add j=⟨b,off + j,none⟩:=by unfold Addr.add; split <;> simp_all
theorem below_grown {α:Type} {w w':World} {base B:Nat} {e:TypeId} {enc:α -> Value} {v:Value} {xs:List α} (Yq:Q0q w base e enc v xs) (hg:w.grownBy w' v.ownBlock) (hb:B <= base) (hB:B <= w.heap.size):Below B w w' :=
 Below.grown (Below.refl _ _) hg hB (fun k hk=>Nat.le_trans hb (World.ownsRow.lt Yq k hk).1)
theorem Q0q.made {α:Type} (w:World) (base:Nat) (e:TypeId) (enc:α -> Value) (hb:base <= w.heap.size):Q0q (w.alloc (.cells #[] e)) base e enc (.slice (some ⟨w.heap.size,0,none⟩) 0 0) ([]:List α) :=
 World.ownsRow_made w #[] 0 hb (by unfold maxLen; omega) rfl
def Src {α:Type} (w:World) (enc:α -> Value) (v:Value) (ys:List α):Prop:=∃ A c,v=.slice A ys.length c /\ ∀ j (h:j < ys.length),∃ b off,A=some ⟨b,off,none⟩ /\ w.cell? ⟨b,off + j,none⟩=some (enc ys[j])
theorem Q5n {P:Program} (w:World) (t ty e:TypeId) (i:TypeInfo) (ht:P.underlying t=some (.slice e)) (hi:P.info? e=some i) (b A:Option Addr) (s c c':Nat) (h:s <= c) :
    (Builtin.append_ #[t,t] ty #[.slice b s c,.slice A 0 c']).run P w=.ok (.slice b s c) w:=by
 cases A <;> cases b <;> simp [Builtin.append_,run_underlying ht,sizeOf,typeInfo,hi,Builtin.lenOf,Builtin.firstCells,loadCells,loadCellsFrom,storeCells,h]
theorem Q0q.shape {α:Type} {w:World} {base:Nat} {e:TypeId} {enc:α -> Value} {v:Value} {xs:List α} (h:Q0q w base e enc v xs):∃ b c,v=.slice b xs.length c /\ xs.length <= c:=by
 rcases h.2 with ⟨rfl,h0⟩ | ⟨g,Qq,cur,rfl,_,_,hc,_⟩
 . exact ⟨none,0,by rw [h0],by omega⟩
 . exact ⟨_,Qq,rfl,hc⟩
theorem Q1r {α:Type} {P:Program} {K:Value -> World -> Prop} {o:Oper} {a:Act} {w:World} (s x:Operand) (t:TypeId) (ho:o.op=.call { callee:=.builtin .append,args:=#[s,x],argTypes:=#[t,t] })
    (base:Nat) (e:TypeId) (i:TypeInfo) (z:Value) (bytes:Nat) (ht:P.underlying t=some (.slice e)) (hi:P.info? e=some i) (hz:i.zero=some z) (yx:i.size=1) (Cg:i.bytes=bytes) (Dw:z.cells.size=1)
    (enc:α -> Value) (v src:Value) (xs ys:List α) (hs:a.eval s=v) (Yq:Q0q w base e enc v xs) (hx:a.eval x=src) (uy:Src w enc src ys) (h1:∀ y ∈ ys,(enc y).oneCell'=true)
    (o0:xs.length + ys.length <= 4398046511104) (hb:bytes <= 32) (Sz:base <= w.heap.size)
    (h:∀ v' w',Q0q w' base e enc v' (xs ++ ys) -> w.grownBy w' v.ownBlock -> K v' w'):gives P K ((execOp a.eval o).run P w):=by
 obtain ⟨A,c,rfl,hc⟩:=uy;cases ys with
 | nil =>
   obtain ⟨b,c',rfl,Kq⟩:=Yq.shape;unfold execOp;simp only [ho,resolve,invoke,builtin,Sem.run_bind,Sem.run_pure,Result.andThen_ok,List.map_toArray,List.map_cons,List.map_nil,hs,hx];rw [List.length_nil,Q5n (P:=P) w t o.type e i ht hi b A xs.length c' c Kq];exact h _ _ (by simpa using Yq) ⟨rfl,rfl,rfl,Nat.le_refl _,fun _ _ _=>rfl⟩
 | cons y ys =>
   obtain ⟨b0,off0,rfl,_⟩:=hc 0 (by simp)
   obtain ⟨v',w',hr,h2,h3,h4⟩:=run_append_own (P:=P) w base t o.type e i z 1 bytes ht hi hz yx Cg Dw (by decide) v xs.length (xs.map enc) Yq ⟨b0,off0,none⟩ (y :: ys).length c ((y :: ys).map enc) (by simp) (fun j u hu=>by
    rw [List.getElem?_map] at hu
    rcases Nat.lt_or_ge j (y :: ys).length with hj | hj
    . rw [List.getElem?_eq_getElem hj] at hu
      simp only [Option.map_some,Option.some.injEq] at hu;obtain ⟨b',off',hA,Wq⟩:=hc j hj;cases hA;rw [<- hu,addr_add]; exact Wq
    . rw [List.getElem?_eq_none hj] at hu; cases hu) (fun u hu=>by obtain ⟨y,hy,rfl⟩:=List.mem_map.1 hu; exact h1 y hy) (by unfold maxLen; omega) (by
      have:(xs.length + (y :: ys).length) * bytes <= 4398046511104 * 32:=Nat.mul_le_mul o0 hb;omega) Sz
   unfold execOp;simp only [ho,resolve,invoke,builtin,Sem.run_bind,Sem.run_pure,Result.andThen_ok,List.map_toArray,List.map_cons,List.map_nil,hs,hx,hr];refine h v' w' ?_ h3;unfold Q0q
   simpa using h2
theorem Q4n {α:Type} {P:Program} {K:Value -> World -> Prop} {o:Oper} {a:Act} {w:World} (s x:Operand) (t:TypeId) (ho:o.op=.call { callee:=.builtin .append,args:=#[s,x],argTypes:=#[t,t] })
    (base:Nat) (e:TypeId) (i:TypeInfo) (z:Value) (bytes:Nat) (ht:P.underlying t=some (.slice e)) (hi:P.info? e=some i) (hz:i.zero=some z) (yx:i.size=1) (Cg:i.bytes=bytes) (Dw:z.cells.size=1)
    (enc:α -> Value) (v src:Value) (ys:List α) (hs:a.eval s=v) (hv:∃ g,v=.slice (some ⟨g,0,none⟩) 0 0 /\ base <= g /\ w.heap[g]?=some (.cells #[] e (0,0))) (hx:a.eval x=src) (uy:Src w enc src ys) (h1:∀ y ∈ ys,(enc y).oneCell'=true)
    (o0:ys.length <= 4398046511104) (hb:bytes <= 32) (Sz:base <= w.heap.size)
    (h:∀ v' w',Q0q w' base e enc v' ys -> Ext w w' -> K v' w'):gives P K ((execOp a.eval o).run P w):=by
 obtain ⟨g,rfl,Ux,hg⟩:=hv;have Yq:Q0q w base e enc (.slice (some ⟨g,0,none⟩) 0 0) ([]:List α):=⟨by simp,.inr ⟨g,0,#[],rfl,Ux,hg,Nat.le_refl _,Nat.zero_le _,rfl,by simp⟩⟩
 obtain ⟨A,c,rfl,hc⟩:=uy;cases ys with
 | nil =>
   unfold execOp;simp only [ho,resolve,invoke,builtin,Sem.run_bind,Sem.run_pure,Result.andThen_ok,List.map_toArray,List.map_cons,List.map_nil,hs,hx];rw [List.length_nil,Q5n (P:=P) w t o.type e i ht hi _ A 0 0 c (Nat.le_refl _)];exact h _ _ Yq (Ext.refl _)
 | cons y ys =>
   obtain ⟨b0,off0,rfl,_⟩:=hc 0 (by simp)
   have Xj:∀ j u,((y :: ys).map enc)[j]?=some u -> w.cell? ((⟨b0,off0,none⟩:Addr).add j)=some u:=fun j u hu=>by
    rw [List.getElem?_map] at hu
    rcases Nat.lt_or_ge j (y :: ys).length with hj | hj
    . rw [List.getElem?_eq_getElem hj] at hu
      simp only [Option.map_some,Option.some.injEq] at hu;obtain ⟨b',off',hA,Wq⟩:=hc j hj;cases hA;rw [<- hu,addr_add]; exact Wq
    . rw [List.getElem?_eq_none hj] at hu; cases hu
   have rz:(y :: ys).length * bytes <= 140737488355328:=by
    have:(y :: ys).length * bytes <= 4398046511104 * 32:=Nat.mul_le_mul o0 hb;omega
   obtain ⟨v',w',hr,h2,h3,h4⟩:=run_append_own (P:=P) w base t o.type e i z 1 bytes ht hi hz yx Cg Dw (by decide) _ 0 (([]:List α).map enc) Yq ⟨b0,off0,none⟩ (y :: ys).length c ((y :: ys).map enc) (by simp) Xj (fun u hu=>by obtain ⟨y,hy,rfl⟩:=List.mem_map.1 hu; exact h1 y hy) (by unfold maxLen; omega) (by rw [Nat.zero_add]; exact rz) Sz
   have Qw:=run_append_grow (P:=P) w t o.type e i z ht hi hz ⟨g,0,none⟩ 0 0 [] (by simp) (by simp) ⟨b0,off0,none⟩ (y :: ys).length c ((y :: ys).map enc) (by rw [yx]; simp) Xj (by simp) (by simp only [List.length_cons] at o0 ⊢; omega) (by rw [Cg]; exact growslice_fits (by simp) (by rw [Nat.zero_add]; exact rz))
   rw [hr] at Qw;injection Qw with ai NG;unfold execOp;simp only [ho,resolve,invoke,builtin,Sem.run_bind,Sem.run_pure,Result.andThen_ok,List.map_toArray,List.map_cons,List.map_nil,hs,hx,hr];refine h v' w' ?_ (by rw [NG]; exact ((Ext.refl w).drew).alloc _)
   unfold Q0q
   simpa using h2
theorem Z8d {a b:ByteArray} {l:List UInt8} (hl:b.toList=l) (h:¬ a=b):(a.toList == l)=false:=by
 rw [<- hl,<- Go.beq_toListBytes]; exact X3c h
theorem toList_eq {a b:ByteArray} {l:List UInt8} (hl:b.toList=l) (h:a=b):(a.toList == l)=true:=by
 rw [<- hl,<- Go.beq_toListBytes]; exact str_eq h
end Go.Tw
namespace Go.Proofs
open Go.RowKit Go.Tw Go.Flow Tryz
theorem Tryz.J2o:Lays.n166 prog Tryz.lays156_ren :=
 have L:=Tryz.lays156
 { mixed:=L.mixed,f166:=L.f166,f240:=L.f240,f276:=L.f276,t0:=L.t0,a0:=L.a0,z0:=L.z0,v0:=L.v0,t3:=L.t3,a3:=L.a3,z3:=L.z3,v3:=L.v3,t4:=L.t4,a4:=L.a4,z4:=L.z4,v4:=L.v4,t9:=L.t9,a9:=L.a9,z9:=L.z9,v9:=L.v9,t20:=L.t20,a20:=L.a20,z20:=L.z20,v20:=L.v20,t37:=L.t37,a37:=L.a37,z37:=L.z37,v37:=L.v37,
   t70:=L.t70,a70:=L.a70,z70:=L.z70,v70:=L.v70,t72:=L.t72,a72:=L.a72,z72:=L.z72,v72:=L.v72,t75:=L.t75,a75:=L.a75,z75:=L.z75,v75:=L.v75,t164:=L.t164,a164:=L.a164,z164:=L.z164,v164:=L.v164 }
def Bld (w:World) (b:Nat) (l:List UInt8):Prop:=Lib.IsBuilder 214 5 b b (Lib.byteCells l) w
theorem Bld.fresh (w:World):Bld (w.alloc (.cells #[.pointer none,.slice none 0 0] 214)) w.heap.size []:=Lib.fresh_isBuilder _ _ w
theorem Bld.ext {w w':World} {b:Nat} {l:List UInt8} (h:Bld w b l) (hx:Ext w w'):Bld w' b l:=by
 have key:∀ p,Lib.BuilderAt 214 5 b b p (Lib.byteCells l) w -> Lib.BuilderAt 214 5 b b p (Lib.byteCells l) w':=by
  rintro p ⟨hB,v,hb,⟨h1,h2⟩,hne⟩;refine ⟨hB,v,by rw [Below.block hx b (Array.getElem?_eq_some_iff.1 hb).1]; exact hb,⟨h1,?_⟩,hne⟩
  rcases h2 with h2 | ⟨g,Qq,cur,hv,Ux,hg,r⟩
  . exact .inl h2
  . exact .inr ⟨g,Qq,cur,hv,Ux,by rw [Below.block hx g (Array.getElem?_eq_some_iff.1 hg).1]; exact hg,r⟩
 rcases h with h | h
 . exact .inl (key _ h)
 . exact .inr (key _ h)
theorem Bld.lt {w:World} {b:Nat} {l:List UInt8} (h:Bld w b l):b < w.heap.size:=by
 rcases h with h | h <;> exact h.lt
theorem write_any (w:World) (b:Nat) (l:List UInt8) (s:ByteArray) (h:Bld w b l) (hl:l.length + s.size <= 140737488355328) :
    Calls prog 148 #[.pointer (some ⟨b,0,none⟩),.string s] w fun e w'=>e=.returned (.tuple #[.int .i64 s.size,.nilIface]) /\ Bld w' b (l ++ s.data.toList) /\ Below b w w':=by
 have Uq:=h.lt;refine (Any.Builder_WriteString J2o Tryz.Builder_Extra_156 b b (Lib.byteCells l) s w h (by simpa [Lib.byteCells] using hl) (by omega)).mono ?_
 rintro e w' ⟨rfl,h1,h2⟩;refine ⟨rfl,.inr ?_,h2⟩;have e:Lib.byteCells (l ++ s.data.toList)=Lib.byteCells l ++ Lib.strCells s:=by simp [Lib.byteCells,Lib.strCells]
 rw [e]; exact h1
theorem Z0v (w:World) (b:Nat) (l:List UInt8) (h:Bld w b l) :
    Calls prog 150 #[.pointer (some ⟨b,0,none⟩)] w fun e w'=>e=.returned (.string ⟨l.toArray⟩) /\ Below b w w' :=
 Tryz.Builder_String_any b b l w h (by have:=h.lt; omega)
end Go.Proofs
namespace Go.Proofs
open Go.RowKit Go.Tw Tryz
theorem Tryz.info3:(prog.info? 3).map (fun i=>(i.zero,i.size,i.bytes))=some (some (.int .i64 0),1,8):=by kernel_rfl
theorem J0j (w:World) (v:Value) (l:List Int) (hv:Q0g w v l) :
    Calls prog 22 #[v] w fun e w'=>e=.returned (.int .i64 (Q0o l)) /\ w=w':=by
 obtain ⟨A,Qq,rfl,hl,Kq,hc⟩:=hv.opened;clear hv;go_enter func22,ntmps22;go_wp2
 go_loop [3] (fun i=>∃ k:Nat,k <= l.length /\ i=.int .i64 k /\ Q0o (l.drop k)=Q0o l) (fun i=>l.length - (intOf i).toNat)
 case atStart=>exact ⟨0,Nat.zero_le _,rfl,rfl⟩
 case round =>
  obtain ⟨k,hk,rfl,hr⟩:=hrel;have HR:=hid hr; clear hr
  by_cases Uq:k < l.length
  . obtain ⟨b,off,rfl,Wq⟩:=hc k Uq
    clear hc
    by_cases hx:ix l k=0
    . have HX:=hid hx
      have aq:(ix l k != 0)=false:=by simp [hx]
      clear hx;go_wp2;go_round
      case rel=>exact ⟨k + 1,by omega,by go_num,by rw [<- HR.out,Q3j Uq,Q0o,if_pos HX.out]⟩
      case measure=>simp [intOf]; omega
    . have aq:(ix l k != 0)=true:=by simp [hx]
      have HX:=hid hx; clear hx;go_wp2;go_ret;exact ⟨Q1m (by rw [<- HR.out,Q3j Uq,Q0o,if_neg HX.out]),rfl⟩
  . clear hc
    go_wp2;go_ret;exact ⟨Q1m (by rw [<- HR.out,List.drop_eq_nil_of_le (by omega)]; rfl),rfl⟩
theorem X1j (w:World) (v:Value) (l:List Int) (x:Int) (hv:Q0g w v l) :
    Calls prog 40 #[v,.int .i64 x] w fun e w'=>e=.returned (.bool (has l x)) /\ w=w':=by
 obtain ⟨A,Qq,rfl,hl,Kq,hc⟩:=hv.opened;clear hv;go_enter func40,ntmps40;go_wp2
 go_loop [5] (fun i=>∃ k:Nat,k <= l.length /\ i=.int .i64 k /\ has (l.drop k) x=has l x) (fun i=>l.length - (intOf i).toNat)
 case atStart=>exact ⟨0,Nat.zero_le _,rfl,rfl⟩
 case round =>
  obtain ⟨k,hk,rfl,hr⟩:=hrel;have HR:=hid hr; clear hr
  by_cases Uq:k < l.length
  . obtain ⟨b,off,rfl,Wq⟩:=hc k Uq
    clear hc
    by_cases hx:ix l k=x
    . have HX:=hid hx
      have aq:(ix l k == x)=true:=by simp [hx]
      clear hx;go_wp2;go_ret;exact ⟨Q1b (by rw [<- HR.out,Q3j Uq,X8g,HX.out]; simp),rfl⟩
    . have aq:(ix l k == x)=false:=by simp [hx]
      have HX:=hid hx; clear hx;go_wp2;go_round
      case rel=>exact ⟨k + 1,by omega,by go_num,by rw [<- HR.out,Q3j Uq,X8g,beq_false_of_ne HX.out,Bool.false_or]⟩
      case measure=>simp [intOf]; omega
  . clear hc
    go_wp2;go_ret;exact ⟨Q1b (by rw [<- HR.out,List.drop_eq_nil_of_le (by omega)]; rfl),rfl⟩
theorem Q3a (w:World) (x a b:Int) :
    Calls prog 87 #[.int .i64 x,.int .i64 a,.int .i64 b] w fun e w'=>e=.returned (.int .i64 (Q0j x a b)) /\ w=w':=by
 unfold Q0j
 by_cases h1:x < a
 . rw [if_pos (.inl h1)]
   go_enter func87,ntmps87;go_wp2;go_ret;exact ⟨rfl,rfl⟩
 . by_cases h2:b < x
   . rw [if_pos (.inr h2)]
     go_enter func87,ntmps87;go_wp2;go_ret;exact ⟨rfl,rfl⟩
   . rw [if_neg (by omega)]
     go_enter func87,ntmps87;go_wp2;go_ret;exact ⟨rfl,rfl⟩
def Q0s (b:Bool) (e:Int):Int:=if b then e else 0
theorem Q4u (w:World) (b:Bool) (x:Int) :
    Calls prog 119 #[.bool b,.int .i64 x] w fun e w'=>e=.returned (.int .i64 (Q0s b x)) /\ w=w':=by
 cases b <;>
 . go_enter func119,ntmps119
   go_wp2;go_ret;exact ⟨rfl,rfl⟩
theorem first_any (w:World) (v:Value) (l:List Int) (hv:Q0g w v l) :
    Calls prog 96 #[v] w fun e w'=>e=.returned (.int .i64 (Q0o l)) /\ w=w':=by
 obtain ⟨A,Qq,rfl,hl,Kq,hc⟩:=hv.opened;clear hv;go_enter func96,ntmps96;go_wp2
 go_loop [7] (fun i=>∃ k:Nat,k <= l.length /\ i=.int .i64 k /\ Q0o (l.drop k)=Q0o l) (fun i=>l.length - (intOf i).toNat)
 case atStart=>exact ⟨0,Nat.zero_le _,rfl,rfl⟩
 case round =>
  obtain ⟨k,hk,rfl,hr⟩:=hrel;have HR:=hid hr; clear hr
  by_cases Uq:k < l.length
  . obtain ⟨b,off,rfl,Wq⟩:=hc k Uq
    clear hc
    by_cases hx:ix l k=0
    . have HX:=hid hx
      have aq:(ix l k != 0)=false:=by simp [hx]
      clear hx;go_wp2;go_round
      case rel=>exact ⟨k + 1,by omega,by go_num,by rw [<- HR.out,Q3j Uq,Q0o,if_pos HX.out]⟩
      case measure=>simp [intOf]; omega
    . have aq:(ix l k != 0)=true:=by simp [hx]
      have HX:=hid hx; clear hx;go_wp2;go_ret;exact ⟨Q1m (by rw [<- HR.out,Q3j Uq,Q0o,if_neg HX.out]),rfl⟩
  . clear hc
    go_wp2;go_ret;exact ⟨Q1m (by rw [<- HR.out,List.drop_eq_nil_of_le (by omega)]; rfl),rfl⟩
theorem Q8e (w:World) (x a b:Int) :
    Calls prog 125 #[.int .i64 x,.int .i64 a,.int .i64 b] w fun e w'=>e=.returned (.int .i64 (Q0j x a b)) /\ w=w':=by
 unfold Q0j
 by_cases h1:x < a
 . rw [if_pos (.inl h1)]
   go_enter func125,ntmps125;go_wp2;go_ret;exact ⟨rfl,rfl⟩
 . by_cases h2:b < x
   . rw [if_pos (.inr h2)]
     go_enter func125,ntmps125;go_wp2;go_ret;exact ⟨rfl,rfl⟩
   . rw [if_neg (by omega)]
     go_enter func125,ntmps125;go_wp2;go_ret;exact ⟨rfl,rfl⟩
theorem X0i (w:World) (x:Int) :
    Calls prog 118 #[.int .i64 x] w fun e w'=>e=.returned (.int .i64 (Q0j x 0 1024)) /\ w=w':=by
 go_enter func118,ntmps118;go_wp2_with (go_at_call 125; refine (Q8e _ x 0 1024).mono ?_; rintro e w' ⟨rfl,rfl⟩);go_ret;exact ⟨rfl,rfl⟩
theorem Y1u (w:World) (x:Int) :
    Calls prog 121 #[.int .i64 x] w fun e w'=>e=.returned (.int .i64 (Q0j x 0 1000)) /\ w=w':=by
 go_enter func121,ntmps121;go_wp2_with (go_at_call 125; refine (Q8e _ x 0 1000).mono ?_; rintro e w' ⟨rfl,rfl⟩);go_ret;exact ⟨rfl,rfl⟩
theorem Y2b (w:World) (x:Int) :
    Calls prog 126 #[.int .i64 x] w fun e w'=>e=.returned (.int .i64 (Q0j x 0 9)) /\ w=w':=by
 go_enter func126,ntmps126;go_wp2_with (go_at_call 125; refine (Q8e _ x 0 9).mono ?_; rintro e w' ⟨rfl,rfl⟩);go_ret;exact ⟨rfl,rfl⟩
theorem X4v (w:World) (x:Int) :
    Calls prog 97 #[.int .i64 x] w fun e w'=>e=.returned (.int .i64 (Q0j x 0 8000)) /\ w=w':=by
 go_enter func97,ntmps97;go_wp2_with (go_at_call 125; refine (Q8e _ x 0 8000).mono ?_; rintro e w' ⟨rfl,rfl⟩);go_ret;exact ⟨rfl,rfl⟩
def Q1p (first:Bool):List UInt8 -> Bool
 | []=>true
 | c :: l=>(Q2d c || (!first && Q4q c)) && Q1p false l
theorem X6t:∀ l:List UInt8,Q1p false l=l.all fun c=>Q2d c || Q4q c
 | []=>rfl
 | c :: l=>by simp [Q1p,X6t l]
theorem Q1y (s:ByteArray):nameB s=(Q1p true s.data.toList && (decide (s.data.toList ≠ []) && decide (s.data.toList.length <= 24))):=by
 unfold nameB;cases s.data.toList with
 | nil=>rfl
 | cons c l =>
   simp only [Q1p,X6t,Bool.not_true,Bool.false_and,Bool.or_false,List.length_cons];rw [show decide (c :: l ≠ [])=true from by simp,Bool.true_and]
   congr 1
theorem Z3t (s:ByteArray) (pos:Nat) (h:pos < s.size):s.data.toList.drop pos=s[pos]'h :: s.data.toList.drop (pos + 1):=by
 have h':pos < s.data.toList.length:=by simpa using h
 rw [List.drop_eq_getElem_cons h'];rfl
theorem Y3x (c:UInt8):Q2d c=(decide (97 <= c.toNat /\ c.toNat <= 122) || decide (65 <= c.toNat /\ c.toNat <= 90)):=by
 unfold Q2d;simp only [UInt8.le_iff_toNat_le];simp
theorem Y6q (c:UInt8):Q4q c=(decide (c.toNat=95) || decide (48 <= c.toNat /\ c.toNat <= 57)):=by
 unfold Q4q;simp only [UInt8.le_iff_toNat_le];rw [show (c == 95)=decide (c.toNat=95) from by rw [show (c == 95)=decide (c=95) from rfl]; exact decide_eq_decide.2 ⟨fun h=>by subst h; rfl,fun h=>UInt8.toNat_inj.1 h⟩]
 simp
theorem J6u (s:ByteArray) (pos:Nat) (h:pos < s.size):∃ n d,Utf8.decode s pos=(n,d) /\ 1 <= d /\ (n < 128 -> n=(s[pos]'h).toNat /\ d=1) /\ (128 <= n -> 128 <= (s[pos]'h).toNat):=by
 by_cases ha:(s[pos]'h).toNat < 128
 . exact ⟨_,_,decode_ascii s pos h ha,Nat.le_refl _,fun _=>⟨rfl,rfl⟩,fun h'=>h'⟩
 . have:=decode_high s pos h (by omega)
   obtain ⟨n,d,sy⟩:∃ n d,Utf8.decode s pos=(n,d):=⟨_,_,rfl⟩;rw [sy] at this;exact ⟨n,d,sy,this.2,fun h'=>by have:=this.1; omega,fun _=>by omega⟩
theorem Z4g {s:ByteArray} (h:s.toList=[]):s.data.toList=[]:=by rw [toList_nil_iff_emptyBytes] at h; subst h; rfl
theorem J1n {s:ByteArray} (h:¬ s.toList=[]):s.data.toList ≠ []:=fun e=>h (by
 rw [toList_nil_iff_emptyBytes];obtain ⟨⟨l⟩⟩:=s;simp only at e;subst e; rfl)
theorem Z6j (w:World) (s:ByteArray) (hs:Short s) :
    Calls prog 124 #[.string s] w fun e w'=>e=.returned (.bool (nameB s)) /\ Ext w w':=by
 unfold Short at hs;go_enter func124,ntmps124;go_wp2
 go_loopw [9] (fun _ w'=>∃ pos:Nat,w'=w.iter s pos /\ Q1p (pos == 0) (s.data.toList.drop pos)=Q1p true s.data.toList) (fun _ w'=>s.size - w'.iterPos w.heap.size)
 case atStart=>exact ⟨0,rfl,rfl⟩
 case round =>
  obtain ⟨pos,rfl,hc⟩:=hrel;have HC:=hid hc; clear hc
  by_cases hp:pos < s.size
  . obtain ⟨n,d,hd,Zl,Ty,U8⟩:=J6u s pos hp
    have C9:∀ ty,(Instr.next (.pointer (some ⟨w.heap.size,0,none⟩)) true ty).run prog (w.iter s pos)=.ok (.tuple #[.bool true,.int .i64 pos,.int .i32 n]) (w.iter s (pos + d)):=fun ty=>by
     rw [run_next_any w s pos ty hp,hd]
    have HB:=hid (Z3t s pos hp);have HL:=hid (Y3x (s[pos]'hp));have HO:=hid (Y6q (s[pos]'hp));obtain ⟨c,Sw⟩:∃ c,s[pos]'hp=c:=⟨_,rfl⟩;rw [Sw] at Ty U8 HB HL HO;have ag:=hid Ty;have sJ:=hid U8;clear Sw hd Ty U8;have hcl:(65 <= n /\ n <= 90) ∨ (97 <= n /\ n <= 122) ∨ (48 <= n /\ n <= 57) ∨ n=95 ∨ n < 48 ∨ (58 <= n /\ n < 65) ∨ (91 <= n /\ n < 97 /\ n ≠ 95) ∨ 123 <= n:=by omega
    obtain ⟨N,hN⟩:∃ N:Int,(n:Int)=N:=⟨_,rfl⟩;rw [hN] at C9
    rcases hcl with hcl | hcl | hcl | hcl | hcl | hcl | hcl | hcl
    . have f0:65 <= N:=by omega
      have f1:N <= 90:=by omega
      have HX:Hid (Q2d c=true):=by
       exact (by rw [HL.out,<- (ag.out (by omega)).1]; simp; omega:Q2d c=true)
      have HD:Hid (d=1):=by exact (ag.out (by omega)).2
      clear hcl hN;go_wp2;go_roundw
      case rel=>exact ⟨pos + d,rfl,by rw [<- HC.out,HB.out,HD.out]; simp [Q1p,HX.out]⟩
      case measure=>simp; omega
    . have f0:65 <= N:=by omega
      have f1:¬ N <= 90:=by omega
      have f2:97 <= N:=by omega
      have f3:N <= 122:=by omega
      have HX:Hid (Q2d c=true):=by
       exact (by rw [HL.out,<- (ag.out (by omega)).1]; simp; omega:Q2d c=true)
      have HD:Hid (d=1):=by exact (ag.out (by omega)).2
      clear hcl hN;go_wp2;go_roundw
      case rel=>exact ⟨pos + d,rfl,by rw [<- HC.out,HB.out,HD.out]; simp [Q1p,HX.out]⟩
      case measure=>simp; omega
    . have f0:¬ 65 <= N:=by omega
      have f1:¬ 97 <= N:=by omega
      have f2:48 <= N:=by omega
      have f3:N <= 57:=by omega
      have HX:Hid (Q2d c=false /\ Q4q c=true):=by
       exact (by rw [HL.out,HO.out,<- (ag.out (by omega)).1]; simp; omega:Q2d c=false /\ Q4q c=true)
      have HD:Hid (d=1):=by exact (ag.out (by omega)).2
      clear hcl hN
      by_cases h0:pos=0
      . subst h0
        go_wp2;go_ret;exact ⟨Q1b (by rw [Q1y,<- HC.out,HB.out]; simp [Q1p,HX.out.1]),Ext.box _ _⟩
      . have G3:(((pos:Nat):Int) == 0)=false:=by rw [beq_eq_false_iff_ne]; omega
        have HP:=hid h0; clear h0;go_wp2;go_roundw
        case rel=>exact ⟨pos + d,rfl,by rw [<- HC.out,HB.out,HD.out]; simp [Q1p,HX.out.1,HX.out.2,HP.out]⟩
        case measure=>simp; omega
    . have f0:65 <= N:=by omega
      have f1:¬ N <= 90:=by omega
      have f2:¬ 97 <= N:=by omega
      have f3:48 <= N:=by omega
      have f4:¬ N <= 57:=by omega
      have f5:(N == 95)=true:=by rw [beq_iff_eq]; omega
      have HX:Hid (Q2d c=false /\ Q4q c=true):=by
       exact (by rw [HL.out,HO.out,<- (ag.out (by omega)).1]; simp; omega:Q2d c=false /\ Q4q c=true)
      have HD:Hid (d=1):=by exact (ag.out (by omega)).2
      clear hcl hN
      by_cases h0:pos=0
      . subst h0
        go_wp2;go_ret;exact ⟨Q1b (by rw [Q1y,<- HC.out,HB.out]; simp [Q1p,HX.out.1]),Ext.box _ _⟩
      . have G3:(((pos:Nat):Int) == 0)=false:=by rw [beq_eq_false_iff_ne]; omega
        have HP:=hid h0; clear h0;go_wp2;go_roundw
        case rel=>exact ⟨pos + d,rfl,by rw [<- HC.out,HB.out,HD.out]; simp [Q1p,HX.out.1,HX.out.2,HP.out]⟩
        case measure=>simp; omega
    . have f0:¬ 65 <= N:=by omega
      have f1:¬ 97 <= N:=by omega
      have f2:¬ 48 <= N:=by omega
      have f3:(N == 95)=false:=by rw [beq_eq_false_iff_ne]; omega
      have HX:Hid (Q2d c=false /\ Q4q c=false):=by
       exact (by
        rcases Nat.lt_or_ge n 128 with h | h
        . rw [HL.out,HO.out,<- (ag.out h).1]; simp; omega
        . have:=sJ.out h
          rw [HL.out,HO.out]; simp; omega:Q2d c=false /\ Q4q c=false)
      clear hcl hN
      by_cases h0:pos=0
      . subst h0
        go_wp2;go_ret;exact ⟨Q1b (by rw [Q1y,<- HC.out,HB.out]; simp [Q1p,HX.out.1]),Ext.box _ _⟩
      . have G3:(((pos:Nat):Int) == 0)=false:=by rw [beq_eq_false_iff_ne]; omega
        have HP:=hid h0; clear h0;go_wp2;go_ret;exact ⟨Q1b (by rw [Q1y,<- HC.out,HB.out]; simp [Q1p,HX.out.1,HX.out.2]),Ext.box _ _⟩
    . have f0:¬ 65 <= N:=by omega
      have f1:¬ 97 <= N:=by omega
      have f2:48 <= N:=by omega
      have f3:¬ N <= 57:=by omega
      have f4:(N == 95)=false:=by rw [beq_eq_false_iff_ne]; omega
      have HX:Hid (Q2d c=false /\ Q4q c=false):=by
       exact (by
        rcases Nat.lt_or_ge n 128 with h | h
        . rw [HL.out,HO.out,<- (ag.out h).1]; simp; omega
        . have:=sJ.out h
          rw [HL.out,HO.out]; simp; omega:Q2d c=false /\ Q4q c=false)
      clear hcl hN
      by_cases h0:pos=0
      . subst h0
        go_wp2;go_ret;exact ⟨Q1b (by rw [Q1y,<- HC.out,HB.out]; simp [Q1p,HX.out.1]),Ext.box _ _⟩
      . have G3:(((pos:Nat):Int) == 0)=false:=by rw [beq_eq_false_iff_ne]; omega
        have HP:=hid h0; clear h0;go_wp2;go_ret;exact ⟨Q1b (by rw [Q1y,<- HC.out,HB.out]; simp [Q1p,HX.out.1,HX.out.2]),Ext.box _ _⟩
    . have f0:65 <= N:=by omega
      have f1:¬ N <= 90:=by omega
      have f2:¬ 97 <= N:=by omega
      have f3:48 <= N:=by omega
      have f4:¬ N <= 57:=by omega
      have f5:(N == 95)=false:=by rw [beq_eq_false_iff_ne]; omega
      have HX:Hid (Q2d c=false /\ Q4q c=false):=by
       exact (by
        rcases Nat.lt_or_ge n 128 with h | h
        . rw [HL.out,HO.out,<- (ag.out h).1]; simp; omega
        . have:=sJ.out h
          rw [HL.out,HO.out]; simp; omega:Q2d c=false /\ Q4q c=false)
      clear hcl hN
      by_cases h0:pos=0
      . subst h0
        go_wp2;go_ret;exact ⟨Q1b (by rw [Q1y,<- HC.out,HB.out]; simp [Q1p,HX.out.1]),Ext.box _ _⟩
      . have G3:(((pos:Nat):Int) == 0)=false:=by rw [beq_eq_false_iff_ne]; omega
        have HP:=hid h0; clear h0;go_wp2;go_ret;exact ⟨Q1b (by rw [Q1y,<- HC.out,HB.out]; simp [Q1p,HX.out.1,HX.out.2]),Ext.box _ _⟩
    . have f0:65 <= N:=by omega
      have f1:¬ N <= 90:=by omega
      have f2:97 <= N:=by omega
      have f3:¬ N <= 122:=by omega
      have f4:48 <= N:=by omega
      have f5:¬ N <= 57:=by omega
      have f6:(N == 95)=false:=by rw [beq_eq_false_iff_ne]; omega
      have HX:Hid (Q2d c=false /\ Q4q c=false):=by
       exact (by
        rcases Nat.lt_or_ge n 128 with h | h
        . rw [HL.out,HO.out,<- (ag.out h).1]; simp; omega
        . have:=sJ.out h
          rw [HL.out,HO.out]; simp; omega:Q2d c=false /\ Q4q c=false)
      clear hcl hN
      by_cases h0:pos=0
      . subst h0
        go_wp2;go_ret;exact ⟨Q1b (by rw [Q1y,<- HC.out,HB.out]; simp [Q1p,HX.out.1]),Ext.box _ _⟩
      . have G3:(((pos:Nat):Int) == 0)=false:=by rw [beq_eq_false_iff_ne]; omega
        have HP:=hid h0; clear h0;go_wp2;go_ret;exact ⟨Q1b (by rw [Q1y,<- HC.out,HB.out]; simp [Q1p,HX.out.1,HX.out.2]),Ext.box _ _⟩
  . have C9:∀ ty,(Instr.next (.pointer (some ⟨w.heap.size,0,none⟩)) true ty).run prog (w.iter s pos)=_:=fun ty=>run_next_end w s pos ty hp
    have HF:Hid (Q1p true s.data.toList=true):=by
     exact (by rw [<- HC.out,List.drop_eq_nil_of_le (by simpa using hp)]; rfl:Q1p true s.data.toList=true)
    have oq:s.data.toList.length=s.size:=by simp
    have HS:=hid oq;clear oq hp
    by_cases Pe:(s.size:Int) <= 24
    . have MG:=hid Pe
      go_wp2
      . have he:s.toList=[]:=by assumption
        go_ret;exact ⟨Q1b (by rw [Q1y,HF.out,Z4g he]; rfl),Ext.box _ _⟩
      . have he:¬ s.toList=[]:=by assumption
        go_ret;exact ⟨Q1b (by have:=HS.out; have:=MG.out; rw [Q1y,HF.out,Bool.true_and,decide_eq_true (J1n he),Bool.true_and]; rw [decide_eq_true (by omega:s.data.toList.length <= 24)]; simp [he]),Ext.box _ _⟩
    . have MG:=hid Pe
      go_wp2
      . have he:s.toList=[]:=by assumption
        go_ret;exact ⟨Q1b (by rw [Q1y,HF.out,Z4g he]; rfl),Ext.box _ _⟩
      . have he:¬ s.toList=[]:=by assumption
        go_ret;exact ⟨Q1b (by have:=HS.out; have:=MG.out; rw [Q1y,HF.out,Bool.true_and,decide_eq_true (J1n he),Bool.true_and]; exact (decide_eq_false (by omega)).symm),Ext.box _ _⟩
end Go.Proofs
namespace Go.Proofs
open Go.RowKit Go.Tw Go.Flow Tryz
theorem Z4p (w:World) (s:ByteArray) (hs:Short s) :
    Calls prog 156 #[.string s] w fun e w'=>e=.returned (.bool (nameB s)) /\ w=w':=by
 unfold Short at hs;have oq:s.data.toList.length=s.size:=by simp
 by_cases hz:s.size=0
 . have HR:Hid (nameB s=false):=by
    rw [Q1y];have:s.data.toList=[]:=List.length_eq_zero_iff.1 (by omega)
    rw [this]; exact rfl
   have Yl:((s.size:Int) == 0)=true:=by rw [beq_iff_eq]; omega
   clear hz oq;go_enter func156,ntmps156;go_wp2;go_ret;exact ⟨Q1b HR.out.symm,rfl⟩
 . have Yl:((s.size:Int) == 0)=false:=by rw [beq_eq_false_iff_ne]; omega
   by_cases hb:24 < s.size
   . have HR:Hid (nameB s=false):=by
      rw [Q1y,show decide (s.data.toList.length <= 24)=false from decide_eq_false (by omega)]
      rw [Bool.and_false,Bool.and_false]; exact rfl
     have Mk:(24:Int) < (s.size:Int):=by omega
     clear hz oq;go_enter func156,ntmps156;go_wp2;go_ret;exact ⟨Q1b HR.out.symm,rfl⟩
   . have HR:Hid (nameB s=Q1p true s.data.toList):=by
      rw [Q1y,show decide (s.data.toList.length <= 24)=true from decide_eq_true (by omega),show decide (s.data.toList ≠ [])=true from decide_eq_true (fun e=>hz (by rw [<- oq,e]; rfl))]
      rw [Bool.and_true,Bool.and_true]; exact rfl
     have qz:=hid oq;have Mk:¬ (24:Int) < (s.size:Int):=by omega
     clear hz oq;go_enter func156,ntmps156;go_wp2
     go_loop [3] (fun i=>∃ k:Nat,k <= s.size /\ i=.int .i64 k /\ Q1p (k == 0) (s.data.toList.drop k)=Q1p true s.data.toList) (fun i=>s.size - (intOf i).toNat)
     case atStart=>exact ⟨0,Nat.zero_le _,rfl,rfl⟩
     case round =>
      obtain ⟨k,hk,rfl,hc⟩:=hrel;have HC:=hid hc; clear hc
      by_cases Uq:k < s.size
      . have HB:=hid (Z3t s k Uq)
        have HL:=hid (Y3x (s[k]'Uq));have HO:=hid (Y6q (s[k]'Uq));have hcl:(65 <= (s[k]'Uq).toNat /\ (s[k]'Uq).toNat <= 90) ∨ (97 <= (s[k]'Uq).toNat /\ (s[k]'Uq).toNat <= 122) ∨ (48 <= (s[k]'Uq).toNat /\ (s[k]'Uq).toNat <= 57) ∨ (s[k]'Uq).toNat=95 ∨ (s[k]'Uq).toNat < 48 ∨ (58 <= (s[k]'Uq).toNat /\ (s[k]'Uq).toNat < 65) ∨ (91 <= (s[k]'Uq).toNat /\ (s[k]'Uq).toNat < 97 /\ (s[k]'Uq).toNat ≠ 95) ∨ 123 <= (s[k]'Uq).toNat:=by omega
        have A9:((s[k]'Uq).toNat:Int)=95 ∨ ¬ ((s[k]'Uq).toNat:Int)=95:=by omega
        have go (b1 b2:Bool) (hl:Q2d (s[k]'Uq)=b1) (ho:Q4q (s[k]'Uq)=b2):Q1p (k == 0) (s.data.toList.drop k)=((b1 || (!(k == 0) && b2)) && Q1p false (s.data.toList.drop (k + 1))):=by
         rw [HB.out,Q1p,hl,ho]
        have GO:=hid go;clear go
        rcases hcl with hcl | hcl | hcl | hcl | hcl | hcl | hcl | hcl
        case inl | inr.inl =>
         all_goals
          have HX:Hid (Q2d (s[k]'Uq)=true):=by
           exact (by rw [HL.out]; simp; omega:Q2d (s[k]'Uq)=true)
          have f0:decide (97 <= ((s[k]'Uq).toNat:Int))=decide (97 <= (s[k]'Uq).toNat):=by rw [decide_eq_decide]; omega
          have f1:(65:Int) <= ((s[k]'Uq).toNat:Int):=by omega
          have f2:((s[k]'Uq).toNat:Int) <= 122:=by omega
          first | (have f3:((s[k]'Uq).toNat:Int) <= 90:=by omega) | (have f3:(97:Int) <= ((s[k]'Uq).toNat:Int):=by omega)
          first | (have f4:¬ (97:Int) <= ((s[k]'Uq).toNat:Int):=by omega) | skip
          clear hcl A9 f0;go_wp2;go_round
          case rel=>exact ⟨k + 1,by omega,by go_num,by rw [<- HC.out,GO.out _ _ HX.out rfl,Bool.true_or,Bool.true_and]; rfl⟩
          case measure=>simp [intOf]; omega
        case inr.inr.inl | inr.inr.inr.inl =>
         all_goals
          have HX:Hid (Q2d (s[k]'Uq)=false /\ Q4q (s[k]'Uq)=true):=by
           exact (by rw [HL.out,HO.out]; simp; omega:Q2d (s[k]'Uq)=false /\ Q4q (s[k]'Uq)=true)
          have f1:¬ (97:Int) <= ((s[k]'Uq).toNat:Int):=by omega
          first | (have f2:¬ (65:Int) <= ((s[k]'Uq).toNat:Int):=by omega) | (have f2:(65:Int) <= ((s[k]'Uq).toNat:Int):=by omega)
          have f3:(¬ ((s[k]'Uq).toNat:Int) <= 90) ∨ ((s[k]'Uq).toNat:Int) <= 90:=by omega
          first | (have f4:¬ ((s[k]'Uq).toNat:Int) <= 90:=by omega) | skip
          first | (have f5:(((s[k]'Uq).toNat:Int) != 95)=false:=by rw [bne_eq_false_iff_eq]; omega) | (have f5:(((s[k]'Uq).toNat:Int) != 95)=true:=by rw [bne_iff_ne]; omega)
          first | (have f6:¬ ((s[k]'Uq).toNat:Int) < 48:=by omega) | skip
          first | (have f7:¬ (57:Int) < ((s[k]'Uq).toNat:Int):=by omega) | skip
          clear hcl A9 f3
          by_cases h0:k=0
          . subst h0
            go_wp2;go_ret;exact ⟨Q1b (by rw [HR.out,<- HC.out,GO.out _ _ HX.out.1 HX.out.2]; rfl),rfl⟩
          . have G3:(((k:Nat):Int) == 0)=false:=by rw [beq_eq_false_iff_ne]; omega
            have HK:Hid ((k == 0)=false):=hid (by rw [beq_eq_false_iff_ne]; omega)
            clear h0;go_wp2;go_round
            case rel=>exact ⟨k + 1,by omega,by go_num,by rw [<- HC.out,GO.out _ _ HX.out.1 HX.out.2,HK.out]; rfl⟩
            case measure=>simp [intOf]; omega
        all_goals
         have HX:Hid (Q2d (s[k]'Uq)=false /\ Q4q (s[k]'Uq)=false):=by
          exact (by rw [HL.out,HO.out]; simp; omega:Q2d (s[k]'Uq)=false /\ Q4q (s[k]'Uq)=false)
         first | (have f1:¬ (97:Int) <= ((s[k]'Uq).toNat:Int):=by omega) | (have f1:(97:Int) <= ((s[k]'Uq).toNat:Int):=by omega)
         first | (have f2:¬ (65:Int) <= ((s[k]'Uq).toNat:Int):=by omega) | (have f2:(65:Int) <= ((s[k]'Uq).toNat:Int):=by omega)
         first | (have f3:¬ ((s[k]'Uq).toNat:Int) <= 122:=by omega) | skip
         first | (have f4:¬ ((s[k]'Uq).toNat:Int) <= 90:=by omega) | skip
         have f5:(((s[k]'Uq).toNat:Int) != 95)=true:=by rw [bne_iff_ne]; omega
         first | (have f6:((s[k]'Uq).toNat:Int) < 48:=by omega) | (have f6:¬ ((s[k]'Uq).toNat:Int) < 48:=by omega)
         first | (have f7:(57:Int) < ((s[k]'Uq).toNat:Int):=by omega) | skip
         clear hcl A9
         by_cases h0:k=0
         . subst h0
           go_wp2;go_ret;exact ⟨Q1b (by rw [HR.out,<- HC.out,GO.out _ _ HX.out.1 HX.out.2]; rfl),rfl⟩
         . have G3:(((k:Nat):Int) == 0)=false:=by rw [beq_eq_false_iff_ne]; omega
           clear h0;go_wp2;go_ret;exact ⟨Q1b (by rw [HR.out,<- HC.out,GO.out _ _ HX.out.1 HX.out.2]; simp),rfl⟩
      . go_wp2
        go_ret;exact ⟨Q1b (by rw [HR.out,<- HC.out,List.drop_eq_nil_of_le (by rw [qz.out]; omega)]; rfl),rfl⟩
end Go.Proofs
namespace Go.Tw
def Q0z (l:List Int) (most:Int):Int:=Q0o (l.map fun x=>Q0j x 0 most)
def Q4a (l:List Mem) (i:Nat):Bool:=(List.range i).any fun k=>Q1s l k == Q1s l i
namespace Q0b
def Q3v (s:Q0b) (i:Nat):Int :=
 if nameB (Q1s s.members i)=false then 8 else if Q4a s.members i=true then 9 else if Q0j (Q0n s.members i) 1 1000 ≠ 0 then 3 else
 if ¬ ((Q0c s.members i).length=s.ships.length /\ (Q1c s.members i).length=s.ships.length /\ (Q1f s.members i).length=s.ships.length) then 2 else
 Q0o [Q0z (Q0c s.members i) 9,Q0z (Q1c s.members i) 1024,Q0z (Q1f s.members i) 1024]
def err (s:Q0b):Int :=
 if Q0j s.limit 0 1024 ≠ 0 then 3 else if s.ships.length=0 then 12 else if 6 < s.ships.length then 5 else if Q0z s.ships 1000 ≠ 0 then 3 else
 if s.members.length=0 then 12 else if 8 < s.members.length then 5 else Q0o ((List.range s.members.length).map s.Q3v)
end Q0b
def Q7d (h:List Int) (row:List (List Int)):List (List Int) :=
 let k:=Q2b h row row.length
 if 0 < k /\ row.getD (k - 1) []=h then row else row.take k ++ [h] ++ row.drop k
namespace Q0b
def Q5v (s:Q0b) (t:Nat):Nat -> List (List Int)
 | 0=>[]
 | i + 1=>Q7d ((Q0c s.members i).take (t + 1)) (s.Q5v t i)
def Q5t (s:Q0b):Nat -> List (List Int)
 | 0=>[]
 | t + 1=>s.Q5t t ++ s.Q5v t s.members.length
def hist (s:Q0b):List (List Int):=s.Q5t s.ships.length
def Y1a (s:Q0b):List (List Int):=s.members.flatMap fun m=>(List.range m.classes.length).map fun t=>m.classes.take (t + 1)
end Q0b
def Q0x (h:List (List Int)) (p:List Rul):Int:=if p.length ≠ h.length then 2 else if (p.map Rul.classes) ≠ h then 11 else 0
def Q1k (s:Q0b) (p:List Rul):Int:=if s.err ≠ 0 then s.err else Q0x s.hist p
def always (s:Q0b) (c:Bool):List Rul:=s.hist.map fun h=>⟨h,c⟩
def Q1u (p:List Rul) (n:Nat):List Rul:=(List.range p.length).map fun i=>⟨Q0m p i,Q2h p i != (i == n)⟩
def look (p:List Rul) (h:List Int):Bool:=match p.find? (fun r=>r.classes == h) with | some r=>r.close | none=>false
def Q0h (p:List Rul) (l:List Int):List Bool:=(List.range l.length).map fun t=>look p (l.take (t + 1))
namespace Mem
def stepT (m:Mem) (t:Nat) (level:Int) (c:Bool):Int × Int:=if c then (level + ix m.inflow t,level + ix m.inflow t) else (ix m.outside t,0)
def Q2o (m:Mem):Nat -> Int -> List Bool -> List Int
 | _,_,[]=>[]
 | t,level,c :: r=>(m.stepT t level c).1 :: m.Q2o (t + 1) (m.stepT t level c).2 r
def Q2a (m:Mem) (l:List Bool):List Int:=m.Q2o 0 0 l
def keeps (m:Mem) (limit:Int) (l:List Bool):Bool:=!((m.Q2a l).any fun x=>decide (limit < x))
end Mem
def Q1g (s:Q0b) (i:Nat):Mem:=s.members.getD i default
def Q1w (s:Q0b) (p:List Rul):List Int :=
 ((List.range s.members.length).filter fun i=>(Q1g s i).keeps s.limit (Q0h p (Q1g s i).classes)).map Int.ofNat
def Q1t (s:Q0b) (l:List Int):Int:=(l.map fun i=>Q0n s.members i.toNat).sum
def allL (s:Q0b):List Int:=(List.range s.members.length).map Int.ofNat
def Q7h (s:Q0b) (p:List Rul):Ratio:=lowest (Q1t s (Q1w s p)) (Q1t s (allL s))
def countB (l:List Bool):Int:=(l.countP id:Nat)
def Q3y (s:Q0b) (l:List Bool):Int:=((List.range l.length).map fun t=>if l.getD t false then ix s.ships t else 0).sum
def Q2u (s:Q0b) (p:List Rul):Int:=(s.members.map fun m=>m.weight * countB (Q0h p m.classes)).sum
def Q6q (s:Q0b) (p:List Rul):Int:=(s.members.map fun m=>m.weight * Q3y s (Q0h p m.classes)).sum
def Q6n (n t:Nat):List Bool:=(List.range t).map fun i=>n.testBit (t - 1 - i)
namespace Mem
def Q4s (m:Mem) (limit:Int) (t:Nat):Nat -> Option (List Bool)
 | 0=>none
 | n + 1=>if m.keeps limit (Q6n n t)=true /\ (∀ b,m.Q4s limit t n=some b -> countB (Q6n n t) < countB b) then some (Q6n n t) else m.Q4s limit t n
def Q9w (m:Mem) (limit:Int) (t:Nat):Bool:=(List.range (2 ^ t)).any fun n=>m.keeps limit (Q6n n t)
end Mem
def alone (s:Q0b) (i:Nat):Option (List Bool):=(Q1g s i).Q4s s.limit s.ships.length (2 ^ s.ships.length)
def X1y (s:Q0b) (i:Nat):Int:=match alone s i with | some b=>countB b | none=>0
def Q5u (s:Q0b) (i:Nat):Option Nat:=(List.range s.ships.length).find? fun t=>!(Q1g s i).Q9w s.limit (t + 1)
def Z2o (s:Q0b) (p:List Rul):Int :=
 ((Q1w s p).map fun i=>Q0n s.members i.toNat * (countB (Q0h p (Q0c s.members i.toNat)) - X1y s i.toNat)).sum
def X1o (s:Q0b) (i:Nat):List Nat:=(List.range s.members.length).filter fun k=>Q0c s.members k == Q0c s.members i
def Y2p (s:Q0b) (l:List Nat) (n:Nat):Int:=(l.map fun k=>if (Q1g s k).keeps s.limit (Q6n n s.ships.length) then Q0n s.members k else 0).sum
def Y6w (s:Q0b) (l:List Nat):Int:=(List.range (2 ^ s.ships.length)).foldl (fun m n=>max m (Y2p s l n)) 0
def Q6o (s:Q0b):List Grp :=
 ((List.range s.members.length).filter fun i=>(X1o s i).head? == some i).map fun i=>⟨(X1o s i).map Int.ofNat,Y6w s (X1o s i)⟩
def Z3r (s:Q0b):Int:=((Q6o s).map Grp.weight).sum
structure Plan where
 weight:Int
 closings:Int
 delay:Int
 closed:List ByteArray
structure Runner where
 member:Nat
 level:Int
 dry:Bool
def Plan.Q4y (x o:Plan):Bool:=decide (o.weight <= x.weight) && decide (x.closings <= o.closings) && decide (x.delay <= o.delay)
def Q2n (out:List Plan) (x:Plan):List Plan:=if out.any (fun o=>o.Q4y x) then out else (out.filter fun o=>!x.Q4y o) ++ [x]
def X8k (l:List Plan):List Plan:=l.foldl Q2n []
def both (x y:Plan):Plan:=⟨x.weight + y.weight,x.closings + y.closings,x.delay + y.delay,x.closed ++ y.closed⟩
def together (a b:List Plan):List Plan:=X8k (a.flatMap fun x=>b.map (both x))
def Q6j (l:List Int):ByteArray:=⟨(l.map fun n=>UInt8.ofNat n.toNat).toArray⟩
def moved (s:Q0b) (t:Nat) (c:Bool) (l:List Runner):List Runner :=
 l.map fun x=>⟨x.member,((Q1g s x.member).stepT t x.level c).2,x.dry && decide (((Q1g s x.member).stepT t x.level c).1 <= s.limit)⟩
def Q6h (s:Q0b) (l:List Runner):Int:=(l.map fun x=>Q0n s.members x.member).sum
def Y5z (s:Q0b) (l:List Runner):Int:=(l.map fun x=>if x.dry then Q0n s.members x.member else 0).sum
def Q7y (s:Q0b) (t c:Nat) (l:List Runner):List Runner:=l.filter fun x=>ix (Q0c s.members x.member) t == (c:Int)
def Y9u (s:Q0b) (t:Nat):List Runner -> ByteArray
 | []=>⟨#[]⟩
 | x :: _=>Q6j ((Q0c s.members x.member).take (t + 1))
def Y3o (s:Q0b) (t:Nat) (l:List Runner) (x:Plan):Plan:=⟨x.weight,x.closings + Q6h s l,x.delay + Q6h s l * ix s.ships t,x.closed ++ [Y9u s t l]⟩
def Q4r (s:Q0b) (t:Nat) (sub:List Runner -> List Plan) (l:List Runner):List Plan :=
 X8k (sub (moved s t false l) ++ (sub (moved s t true l)).map (Y3o s t l))
def Q2x (s:Q0b) (t:Nat) (sub:List Runner -> List Plan) (l:List Runner):Nat -> List Plan
 | 0=>[⟨0,0,0,[]⟩]
 | c + 1=>if Q7y s t c l=[] then Q2x s t sub l c else together (Q2x s t sub l c) (Q4r s t sub (Q7y s t c l))
def Q2v (s:Q0b):Nat -> List Runner -> List Plan
 | 0,l=>[⟨Y5z s l,0,0,[]⟩]
 | k + 1,l=>Q2x s (s.ships.length - (k + 1)) (Q2v s k) l 10
def Q3m (s:Q0b):List Plan:=Q2v s s.ships.length ((List.range s.members.length).map fun i=>⟨i,0,true⟩)
def J1w (s:Q0b):Int:=(Q3m s).foldl (fun m x=>max m x.weight) 0
def Q2m (need:Int) (b:Option Plan) (x:Plan):Option Plan :=
 if x.weight < need then b else match b with
 | none=>some x
 | some o=>if x.closings < o.closings ∨ x.closings=o.closings /\ x.delay < o.delay then some x else b
def Y5r (s:Q0b) (need:Int):Option Plan:=(Q3m s).foldl (Q2m need) none
def Y1o (s:Q0b) (x:Plan):List Rul:=s.hist.map fun h=>⟨h,x.closed.contains (Q6j h)⟩
def Q0w:Q0b:=⟨30,[5,7],[⟨⟨#[97]⟩,2,[0,0],[20,40],[10,10]⟩,⟨⟨#[98]⟩,1,[0,1],[40,20],[10,25]⟩,⟨⟨#[99]⟩,1,[0,1],[20,20],[10,10]⟩]⟩
def X3h (a b c:Bool):List Rul:=[⟨[0],a⟩,⟨[0,0],b⟩,⟨[0,1],c⟩]
def Q7n:Q0b:=⟨30,[0,0],[⟨⟨#[122]⟩,1,[0,0],[40,40],[20,20]⟩]⟩
end Go.Tw
