/- Part of a proof. -/
import Derived.WalkKit
import Derived.WalkSpells
import Derived.WalkLawsBesides
import Derived.Lib.Hide
import Derived.Below
import Derived.Carry
import Derived.Test.YthnobngcipaljaaGreatDoorProg
import Derived.Deep.Slices
import Derived.Deep.Strs
import Derived.ProofKit
import Derived.SizedLaws
import Derived.Ground.Names7Prog
import Derived.Ground.SlsfProg
import Derived.Shelf.Spec.TrailingZeros
import Derived.Shelf.SlSortCmp.Whole1
import Derived.Shelf.SlGeneric
import Derived.Shelf.Strings.Builder1
import Derived.Shelf.Strings.Builder2
import Derived.Shelf.Strings.OnBuilder
import Derived.Shelf.Small.Bits
import Derived.Shelf.Small.Wraps
import Derived.Shelf.Strings.BuilderF
import Derived.Shelf.Strings.BuilderK
import Derived.Shelf.Strings.Builder2Cap
import Derived.Shelf.Strconv.Itoa0
import Derived.Shelf.Strconv.Itoa1
import Derived.Shelf.LaysM
import Derived.Shelf.Strconv.Itoa2
import Derived.Shelf.Strconv.Itoa3
import Derived.Shelf.Strings.Search1
import Derived.Shelf.Strings.Search2
import Derived.Shelf.Strings.Search3
import Derived.Shelf.Strings.Cut
import Derived.Shelf.Strings.Count
import Derived.Shelf.Strings.Shaped
import Derived.Shelf.Strings.Split
import Derived.Shelf.Unicode.DecodeSlow
import Derived.Shelf.Strings.BuilderCap
import Derived.Shelf.Slices.Turned
import Derived.Ground.Names2Prog
import Derived.Shelf.Slices.Clone
import Derived.Shelf.Slices.SearchI
import Derived.Ground.SlgnProg
import Derived.Shelf.SlicesE.Clone
import Derived.Orders
import Derived.Laws.AppendOwn
import Derived.Deep.DeepMust
import Derived.Deep.Light
import Derived.Deep.Draws
import Derived.Laws.StructEq
import Derived.Deep.QuietTactic
import Derived.BigQuiet
set_option maxRecDepth 1000000
set_option maxHeartbeats 64000000
set_option linter.unusedVariables false
set_option linter.unusedSimpArgs false
set_option linter.constructorNameAsVariable false
open Go.Lib (hid)
namespace Go.Tw
open Go.RowKit
theorem gA {α:Type} (l:List α) (i:Nat):l.toArray[i]?=l[i]?:=by simp
theorem gB {α:Type} (a:α) (l:List α):(a :: l)[0]?=some a:=rfl
theorem gC {α:Type} (a:α) (l:List α) (i:Nat):(a :: l)[i + 1]?=l[i]?:=by simp
def Ext (w w':World):Prop:=Below w.heap.size w w'
theorem Ext.refl (w:World):Ext w w:=Below.refl _ _
theorem Ext.trans {a b c:World} (h:Ext a b) (k:Ext b c):Ext a c:=Below.trans h (Below.mono k h.size)
theorem Ext.drew {a b:World} (h:Ext a b):Ext a b.drew:=Below.drew h
theorem Ext.alloc {a b:World} (h:Ext a b) (o:Obj):Ext a (b.alloc o):=Below.alloc h h.size o
theorem Ext.below {a b:World} (h:Ext a b) {n:Nat} (hn:n <= a.heap.size):Below n a b:=Below.mono h hn
theorem Ext.cell {a b:World} (h:Ext a b) {p:Addr} {v:Value} (hc:a.cell? p=some v):b.cell? p=some v :=
 (Below.cell h (World.block_lt_of_cell? a p hc)).trans hc
theorem Ext.size {a b:World} (h:Ext a b):a.heap.size <= b.heap.size:=Below.size h
def ix (l:List Int) (k:Nat):Int:=l.getD k 0
theorem Q5i {l:List Int} {k:Nat} (h:k < l.length):ix l k=l[k]:=by simp [ix,h]
def Row (w:World) (v:Value) (n sz:Nat) (c:Nat -> Value):Prop :=
 ∃ A Qq,v=.slice A n Qq /\ n <= 17592186043904 /\ n <= Qq /\ ∀ j,j < n * sz -> ∃ b off,A=some ⟨b,off,none⟩ /\ w.cell? ⟨b,off + j,none⟩=some (c j)
theorem Row.ext {w w':World} {v:Value} {n sz:Nat} {c:Nat -> Value} (h:Row w v n sz c) (hx:Ext w w'):Row w' v n sz c:=by
 obtain ⟨A,Qq,hv,hn,Kq,hc⟩:=h;exact ⟨A,Qq,hv,hn,Kq,fun j hj=>let ⟨b,off,hA,h⟩:=hc j hj; ⟨b,off,hA,hx.cell h⟩⟩
def Rows {α:Type} (sz:Nat) (R:World -> (Nat -> Value) -> α -> Prop) (w:World) (v:Value) (l:List α):Prop :=
 ∃ c,Row w v l.length sz c /\ ∀ j (h:j < l.length),R w (fun i=>c (j * sz + i)) l[j]
theorem Rows.ext {α:Type} {sz:Nat} {R:World -> (Nat -> Value) -> α -> Prop} (hR:∀ w w' c x,Ext w w' -> R w c x -> R w' c x) {w w':World} {v:Value} {l:List α}
    (h:Rows sz R w v l) (hx:Ext w w'):Rows sz R w' v l:=by
 obtain ⟨c,h1,h2⟩:=h;exact ⟨c,h1.ext hx,fun j hj=>hR _ _ _ _ hx (h2 j hj)⟩
theorem Rows.nil {α:Type} (sz:Nat) (R:World -> (Nat -> Value) -> α -> Prop) (w:World):Rows sz R w (.slice none 0 0) [] :=
 ⟨fun _=>undef,⟨none,0,rfl,by simp,by simp,fun j hj=>by simp at hj⟩,fun j hj=>by simp at hj⟩
def Q0e:World -> Value -> List Int -> Prop:=Rows 1 fun _ c x=>c 0=.int .i64 x
def Q1f:World -> Value -> List Bool -> Prop:=Rows 1 fun _ c x=>c 0=.bool x
def J2n:World -> Value -> List ByteArray -> Prop:=Rows 1 fun _ c x=>c 0=.string x
def Q4g:World -> Value -> List (List Int) -> Prop:=Rows 1 fun w c x=>Q0e w (c 0) x
theorem Q0e.ext {w w':World} {v:Value} {l:List Int} (h:Q0e w v l) (hx:Ext w w'):Q0e w' v l:=Rows.ext (fun _ _ _ _ _ h=>h) h hx
theorem Q1f.ext {w w':World} {v:Value} {l:List Bool} (h:Q1f w v l) (hx:Ext w w'):Q1f w' v l:=Rows.ext (fun _ _ _ _ _ h=>h) h hx
theorem J2n.ext {w w':World} {v:Value} {l:List ByteArray} (h:J2n w v l) (hx:Ext w w'):J2n w' v l:=Rows.ext (fun _ _ _ _ _ h=>h) h hx
theorem Q4g.ext {w w':World} {v:Value} {l:List (List Int)} (h:Q4g w v l) (hx:Ext w w'):Q4g w' v l:=Rows.ext (fun _ _ _ _ hx h=>h.ext hx) h hx
theorem Q0e.opened {w:World} {v:Value} {l:List Int} (h:Q0e w v l) :
    ∃ A Qq,v=.slice A l.length Qq /\ l.length <= 17592186043904 /\ l.length <= Qq /\ ∀ k,k < l.length -> ∃ b off,A=some ⟨b,off,none⟩ /\ w.cell? ⟨b,off + k,none⟩=some (.int .i64 (ix l k)):=by
 obtain ⟨c,⟨A,Qq,hv,hn,Kq,hc⟩,h2⟩:=h;refine ⟨A,Qq,hv,hn,Kq,fun k hk=>?_⟩;obtain ⟨b,off,hA,h⟩:=hc k (by omega)
 refine ⟨b,off,hA,?_⟩;have:=h2 k hk;simp only [Nat.mul_one,Nat.add_zero] at this;rw [h,this,Q5i hk]
end Go.Tw
namespace Go.Tw
open Go.RowKit
structure Basic where
 name:ByteArray
 chance:Int
structure Y2f where
 name:ByteArray
 chance:Int
 members:List Int
structure Gate where
 kind:ByteArray
 need:Int
 inputs:List Int
structure Tree where
 basics:List Basic
 causes:List Y2f
 gates:List Gate
instance:Inhabited Basic:=⟨⟨⟨#[]⟩,0⟩⟩
instance:Inhabited Y2f:=⟨⟨⟨#[]⟩,0,[]⟩⟩
instance:Inhabited Gate:=⟨⟨⟨#[]⟩,0,[]⟩⟩
def Short (s:ByteArray):Prop:=s.size <= 140737488355328
def Y8e (_:World) (c:Nat -> Value) (x:Basic):Prop:=c 0=.string x.name /\ c 1=.int .i64 x.chance /\ Short x.name
def Z0y (w:World) (c:Nat -> Value) (x:Y2f):Prop:=c 0=.string x.name /\ c 1=.int .i64 x.chance /\ Q0e w (c 2) x.members /\ Short x.name
def J1t (w:World) (c:Nat -> Value) (x:Gate):Prop:=c 0=.string x.kind /\ c 1=.int .i64 x.need /\ Q0e w (c 2) x.inputs /\ Short x.kind
theorem Y8e.ext (w w':World) (c:Nat -> Value) (x:Basic) (_:Ext w w') (h:Y8e w c x):Y8e w' c x:=h
theorem Z0y.ext (w w':World) (c:Nat -> Value) (x:Y2f) (hx:Ext w w') (h:Z0y w c x):Z0y w' c x:=⟨h.1,h.2.1,h.2.2.1.ext hx,h.2.2.2⟩
theorem J1t.ext (w w':World) (c:Nat -> Value) (x:Gate) (hx:Ext w w') (h:J1t w c x):J1t w' c x:=⟨h.1,h.2.1,h.2.2.1.ext hx,h.2.2.2⟩
def X1k:World -> Value -> List Basic -> Prop:=Rows 2 Y8e
def X1t:World -> Value -> List Y2f -> Prop:=Rows 3 Z0y
def X4x:World -> Value -> List Gate -> Prop:=Rows 3 J1t
theorem X1k.ext {w w':World} {v:Value} {l:List Basic} (h:X1k w v l) (hx:Ext w w'):X1k w' v l:=Rows.ext Y8e.ext h hx
theorem X1t.ext {w w':World} {v:Value} {l:List Y2f} (h:X1t w v l) (hx:Ext w w'):X1t w' v l:=Rows.ext Z0y.ext h hx
theorem X4x.ext {w w':World} {v:Value} {l:List Gate} (h:X4x w v l) (hx:Ext w w'):X4x w' v l:=Rows.ext J1t.ext h hx
structure Y5y (w:World) (a b c:Value) (t:Tree):Prop where
 basics:X1k w a t.basics
 causes:X1t w b t.causes
 gates:X4x w c t.gates
theorem Y5y.ext {w w':World} {a b c:Value} {t:Tree} (h:Y5y w a b c t) (hx:Ext w w'):Y5y w' a b c t:=⟨h.basics.ext hx,h.causes.ext hx,h.gates.ext hx⟩
def IsTree (w:World) (v:Value) (t:Tree):Prop:=∃ a b c,v=.agg #[a,b,c] /\ Y5y w a b c t
theorem IsTree.ext {w w':World} {v:Value} {t:Tree} (h:IsTree w v t) (hx:Ext w w'):IsTree w' v t:=let ⟨a,b,c,hv,h3⟩:=h; ⟨a,b,c,hv,h3.ext hx⟩
def bName (l:List Basic) (k:Nat):ByteArray:=(l.getD k default).name
def Z4l (l:List Basic) (k:Nat):Int:=(l.getD k default).chance
def cName (l:List Y2f) (k:Nat):ByteArray:=(l.getD k default).name
def Z3r (l:List Y2f) (k:Nat):Int:=(l.getD k default).chance
def Q9i (l:List Y2f) (k:Nat):List Int:=(l.getD k default).members
def Z3x (l:List Gate) (k:Nat):ByteArray:=(l.getD k default).kind
def J2e (l:List Gate) (k:Nat):Int:=(l.getD k default).need
def Q8e (l:List Gate) (k:Nat):List Int:=(l.getD k default).inputs
theorem Q1c {k:IntKind} {a b:Int} (h:a=b):Ending.returned (.int k a)=.returned (.int k b):=by rw [h]
theorem Q0x {a b:Bool} (h:a=b):Ending.returned (.bool a)=.returned (.bool b):=by rw [h]
def has (l:List Int) (x:Int):Bool:=l.contains x
theorem X1u (y:Int) (l:List Int) (x:Int):has (y :: l) x=(y == x || has l x):=by
 unfold has; rw [List.contains_cons,Bool.beq_comm]
theorem J8o {l:List Int} {x:Int}:has l x=true ↔ x ∈ l:=by simp [has]
theorem Q0t {α:Type} {l:List α} {k:Nat} (d:α) (h:k < l.length):l.getD k d=l[k]:=by simp [h]
theorem X1k.opened {w:World} {v:Value} {l:List Basic} (h:X1k w v l) :
    ∃ A Qq,v=.slice A l.length Qq /\ l.length <= 17592186043904 /\ l.length <= Qq /\ ∀ k,k < l.length -> ∃ b off,A=some ⟨b,off,none⟩ /\ b < w.heap.size /\
     w.cell? ⟨b,off + k * 2,none⟩=some (.string (bName l k)) /\ w.cell? ⟨b,off + k * 2 + 1,none⟩=some (.int .i64 (Z4l l k)) /\ Short (bName l k):=by
 obtain ⟨c,⟨A,Qq,hv,hn,Kq,hc⟩,h2⟩:=h;refine ⟨A,Qq,hv,hn,Kq,fun k hk=>?_⟩;obtain ⟨b,off,hA,h0⟩:=hc (k * 2) (by omega)
 obtain ⟨b',off',Vx,h1⟩:=hc (k * 2 + 1) (by omega)
 rw [hA] at Vx; cases Vx;obtain ⟨e0,e1,e2⟩:=h2 k hk;simp only [Nat.add_zero] at e0 e1;refine ⟨b,off,hA,World.block_lt_of_cell? w _ h0,?_,?_,?_⟩
 . rw [h0,e0,bName,Q0t _ hk]
 . rw [Nat.add_assoc,h1,e1,Z4l,Q0t _ hk]
 . rw [bName,Q0t _ hk]; exact e2
theorem X1t.opened {w:World} {v:Value} {l:List Y2f} (h:X1t w v l) :
    ∃ A Qq,v=.slice A l.length Qq /\ l.length <= 17592186043904 /\ l.length <= Qq /\ ∀ k,k < l.length -> ∃ b off m,A=some ⟨b,off,none⟩ /\ b < w.heap.size /\
     w.cell? ⟨b,off + k * 3,none⟩=some (.string (cName l k)) /\ w.cell? ⟨b,off + k * 3 + 1,none⟩=some (.int .i64 (Z3r l k)) /\
     w.cell? ⟨b,off + k * 3 + 2,none⟩=some m /\ Q0e w m (Q9i l k) /\ Short (cName l k):=by
 obtain ⟨c,⟨A,Qq,hv,hn,Kq,hc⟩,h2⟩:=h;refine ⟨A,Qq,hv,hn,Kq,fun k hk=>?_⟩;obtain ⟨b,off,hA,h0⟩:=hc (k * 3) (by omega)
 obtain ⟨b',off',Vx,h1⟩:=hc (k * 3 + 1) (by omega)
 rw [hA] at Vx; cases Vx;obtain ⟨b',off',Vx,h3⟩:=hc (k * 3 + 2) (by omega)
 rw [hA] at Vx; cases Vx;obtain ⟨e0,e1,e2,e3⟩:=h2 k hk;simp only [Nat.add_zero] at e0 e1;refine ⟨b,off,c (k * 3 + 2),hA,World.block_lt_of_cell? w _ h0,?_,?_,?_,?_,?_⟩
 . rw [h0,e0,cName,Q0t _ hk]
 . rw [Nat.add_assoc,h1,e1,Z3r,Q0t _ hk]
 . rw [Nat.add_assoc,h3]
 . rw [Q9i,Q0t _ hk]; exact e2
 . rw [cName,Q0t _ hk]; exact e3
theorem X4x.opened {w:World} {v:Value} {l:List Gate} (h:X4x w v l) :
    ∃ A Qq,v=.slice A l.length Qq /\ l.length <= 17592186043904 /\ l.length <= Qq /\ ∀ k,k < l.length -> ∃ b off m,A=some ⟨b,off,none⟩ /\ b < w.heap.size /\
     w.cell? ⟨b,off + k * 3,none⟩=some (.string (Z3x l k)) /\ w.cell? ⟨b,off + k * 3 + 1,none⟩=some (.int .i64 (J2e l k)) /\
     w.cell? ⟨b,off + k * 3 + 2,none⟩=some m /\ Q0e w m (Q8e l k) /\ Short (Z3x l k):=by
 obtain ⟨c,⟨A,Qq,hv,hn,Kq,hc⟩,h2⟩:=h;refine ⟨A,Qq,hv,hn,Kq,fun k hk=>?_⟩;obtain ⟨b,off,hA,h0⟩:=hc (k * 3) (by omega)
 obtain ⟨b',off',Vx,h1⟩:=hc (k * 3 + 1) (by omega)
 rw [hA] at Vx; cases Vx;obtain ⟨b',off',Vx,h3⟩:=hc (k * 3 + 2) (by omega)
 rw [hA] at Vx; cases Vx;obtain ⟨e0,e1,e2,e3⟩:=h2 k hk;simp only [Nat.add_zero] at e0 e1;refine ⟨b,off,c (k * 3 + 2),hA,World.block_lt_of_cell? w _ h0,?_,?_,?_,?_,?_⟩
 . rw [h0,e0,Z3x,Q0t _ hk]
 . rw [Nat.add_assoc,h1,e1,J2e,Q0t _ hk]
 . rw [Nat.add_assoc,h3]
 . rw [Q8e,Q0t _ hk]; exact e2
 . rw [Z3x,Q0t _ hk]; exact e3
def bx (l:List Bool) (k:Nat):Bool:=l.getD k false
theorem Q1f.opened {w:World} {v:Value} {l:List Bool} (h:Q1f w v l) :
    ∃ A Qq,v=.slice A l.length Qq /\ l.length <= 17592186043904 /\ l.length <= Qq /\ ∀ k,k < l.length -> ∃ b off,A=some ⟨b,off,none⟩ /\ b < w.heap.size /\ w.cell? ⟨b,off + k,none⟩=some (.bool (bx l k)):=by
 obtain ⟨c,⟨A,Qq,hv,hn,Kq,hc⟩,h2⟩:=h;refine ⟨A,Qq,hv,hn,Kq,fun k hk=>?_⟩;obtain ⟨b,off,hA,h⟩:=hc k (by omega)
 refine ⟨b,off,hA,World.block_lt_of_cell? w _ h,?_⟩;have:=h2 k hk;simp only [Nat.mul_one,Nat.add_zero] at this;rw [h,this,bx,Q0t _ hk]
theorem str_eq {a b:ByteArray} (h:a=b):(a == b)=true:=by subst h; obtain ⟨⟨d⟩⟩:=a; show (Array.mk d == Array.mk d)=true; simp
theorem X3g {a b:ByteArray} (h:¬ a=b):(a == b)=false:=by
 obtain ⟨a⟩:=a; obtain ⟨b⟩:=b;show (a == b)=false;rw [beq_eq_false_iff_ne];exact fun e=>h (by rw [e])
theorem Ext.cells {a b:World} (h:Ext a b):∀ k o,k < a.heap.size -> b.cell? ⟨k,o,none⟩=a.cell? ⟨k,o,none⟩:=fun _ _ hk=>Below.cell (p:=⟨_,_,none⟩) h hk
end Go.Tw
namespace Go.Tw
def Q0h:List Int -> Int
 | []=>0
 | x :: l=>if x=0 then Q0h l else x
def Q0f (x a b:Int):Int:=if x < a ∨ b < x then 3 else 0
def J2k:List Int -> Bool
 | x :: y :: l=>decide (x < y) && J2k (y :: l)
 | _=>true
def K2j (l:List Int) (n:Int):Bool:=l.any fun x=>decide (x < 0 ∨ n <= x)
def Z4q (l:List Int) (n:Int):Int:=if K2j l n then 10 else if J2k l then 0 else 11
def X5n (l:List Int) (n:Int):Int:=if l=[] then 12 else Z4q l n
def Q2f (c:UInt8):Bool:=(decide (97 <= c) && decide (c <= 122)) || (decide (65 <= c) && decide (c <= 90))
def Q4v (c:UInt8):Bool:=c == 95 || (decide (48 <= c) && decide (c <= 57))
def nameB (s:ByteArray):Bool:=match s.data.toList with
 | []=>false
 | c :: l=>Q2f c && l.all (fun c=>Q2f c || Q4v c) && decide (l.length < 24)
def J7c (s:ByteArray):Int:=if nameB s then 0 else 8
def K2k:ByteArray:=⟨#[97,110,100]⟩
def sOr:ByteArray:=⟨#[111,114]⟩
def K0m:ByteArray:=⟨#[118,111,116,101]⟩
namespace Tree
def size (t:Tree):Nat:=t.basics.length + t.causes.length
def nodes (t:Tree):Nat:=t.basics.length + t.gates.length
def nameAt (t:Tree) (i:Nat):ByteArray:=if i < t.basics.length then bName t.basics i else cName t.causes (i - t.basics.length)
def X8m (t:Tree) (i:Nat):Int:=if i < t.basics.length then Z4l t.basics i else Z3r t.causes (i - t.basics.length)
def K0b (t:Tree) (i:Nat):Bool:=(List.range i).any fun k=>t.nameAt k == t.nameAt i
def X8h (t:Tree) (i:Nat):Int :=
 Q0h [J7c (t.nameAt i),Q0f (t.X8m i) 0 16,if t.K0b i then 9 else 0,if i < t.basics.length then 0 else X5n (Q9i t.causes (i - t.basics.length)) t.basics.length]
end Tree
def K1h (s:ByteArray):Bool:=s == K2k || s == sOr || s == K0m
def J7d (kind:ByteArray) (need:Int) (n:Nat):Int:=if kind=K0m then Q0f need 1 n else Q0f need 0 0
def J0b (kind:ByteArray) (need:Int) (inputs:List Int) (nodes:Int):Int :=
 Q0h [if K1h kind then 0 else 13,if 12 < inputs.length then 5 else 0,X5n inputs nodes,J7d kind need inputs.length]
namespace Tree
def X9e (t:Tree) (i:Nat):Int:=J0b (Z3x t.gates i) (J2e t.gates i) (Q8e t.gates i) ((t.basics.length:Int) + i)
def err (t:Tree):Int :=
 if t.basics.length=0 ∨ t.gates.length=0 then 12 else if 12 < t.size ∨ 32 < t.gates.length then 5 else
 Q0h ((List.range t.size).map t.X8h ++ (List.range t.gates.length).map t.X9e)
def K1b (t:Tree) (ev:Nat -> Bool) (i:Nat):Bool:=ev i || (List.range t.causes.length).any fun k=>ev (t.basics.length + k) && has (Q9i t.causes k) i
end Tree
def J5x (kind:ByteArray) (need:Int) (n:Nat):Int:=if kind=K2k then n else if kind=sOr then 1 else need
def failing (out:List Bool) (inputs:List Int):Nat:=inputs.countP fun x=>bx out x.toNat
def K0q (out:List Bool) (kind:ByteArray) (need:Int) (inputs:List Int):Bool:=decide (J5x kind need inputs.length <= failing out inputs)
namespace Tree
def J1x (t:Tree) (ev:Nat -> Bool):List Bool:=(List.range t.basics.length).map (t.K1b ev)
def X0n (t:Tree) (ev:Nat -> Bool):Nat -> List Bool
 | 0=>t.J1x ev
 | n + 1=>t.X0n ev n ++ [K0q (t.X0n ev n) (Z3x t.gates n) (J2e t.gates n) (Q8e t.gates n)]
def states (t:Tree) (ev:Nat -> Bool):List Bool:=t.X0n ev t.gates.length
def fails (t:Tree) (ev:Nat -> Bool):Bool:=bx (t.states ev) (t.nodes - 1)
end Tree
def evL (l:List Int) (i:Nat):Bool:=has l i
def evN (s:Nat) (i:Nat):Bool:=s.testBit i
def bitsOf (s:Nat):List Int:=((List.range 16).filter (s.testBit ·)).map Int.ofNat
def others (n:Nat) (l:List Int):List Int:=((List.range n).map Int.ofNat).filter fun x=>!has l x
def without (l:List Int) (k:Nat):List Int:=l.take k ++ l.drop (k + 1)
namespace Tree
def setB (t:Tree) (l:List Int) (paths:Bool):Bool:=if paths then !t.fails (evL (others t.size l)) else t.fails (evL l)
def J5c (t:Tree) (l:List Int) (paths:Bool):Bool:=t.setB l paths && !(List.range l.length).any fun k=>t.setB (without l k) paths
end Tree
def Q5v:List Int -> List Int -> Bool
 | x :: l,y :: m=>if x=y then Q5v l m else decide (x < y)
 | _,_=>false
def Q2g (a b:List Int):Bool:=if a.length=b.length then Q5v a b else decide (a.length < b.length)
def Q2e (l:List Int) (out:List (List Int)):Nat -> Nat
 | 0=>0
 | n + 1=>if Q2g l (out.getD n []) then Q2e l out n else n + 1
def Z6e (l:List Int) (out:List (List Int)):List (List Int):=out.take (Q2e l out out.length) ++ [l] ++ out.drop (Q2e l out out.length)
namespace Tree
def sets (t:Tree) (paths:Bool):List (List Int):=(List.range (2 ^ t.size)).foldl (fun out s=>if t.J5c (bitsOf s) paths then Z6e (bitsOf s) out else out) []
def single (t:Tree):List Int:=((List.range t.size).map Int.ofNat).filter fun x=>t.fails (evL [x])
end Tree
namespace Tree
end Tree
def factor (c:List Int) (s j:Nat):Int:=if s.testBit j then ix c j else 16 - ix c j
def J6q (c:List Int) (s:Nat):Nat -> Int
 | 0=>1
 | j + 1=>J6q c s j * factor c s j
def partOf (c:List Int) (s:Nat):Int:=J6q c s c.length
namespace Tree
def Q4k (t:Tree) (c:List Int):Nat -> Int
 | 0=>0
 | s + 1=>t.Q4k c s + if t.fails (evN s) then partOf c s else 0
def weight (t:Tree) (c:List Int):Int:=t.Q4k c (2 ^ t.size)
end Tree
structure Ratio where
 num:Int
 den:Int
deriving DecidableEq
def lowest (a b:Int):Ratio:=⟨a / (Int.gcd a b:Int),b / (Int.gcd a b:Int)⟩
end Go.Tw
namespace Go.Tw
open Go.RowKit
structure Mem where
 name:ByteArray
 weight:Int
 classes:List Int
 outside:List Int
 inflow:List Int
structure Q0b where
 limit:Int
 ships:List Int
 members:List Mem
structure Rul where
 classes:List Int
 close:Bool
structure Grp where
 members:List Int
 weight:Int
instance:Inhabited Mem:=⟨⟨⟨#[]⟩,0,[],[],[]⟩⟩
instance:Inhabited Rul:=⟨⟨[],false⟩⟩
instance:Inhabited Grp:=⟨⟨[],0⟩⟩
def J9s (w:World) (c:Nat -> Value) (x:Mem):Prop:=c 0=.string x.name /\ c 1=.int .i64 x.weight /\ Q0e w (c 2) x.classes /\ Q0e w (c 3) x.outside /\ Q0e w (c 4) x.inflow /\ Short x.name
def J9f (w:World) (c:Nat -> Value) (x:Rul):Prop:=Q0e w (c 0) x.classes /\ c 1=.bool x.close
def K0k (w:World) (c:Nat -> Value) (x:Grp):Prop:=Q0e w (c 0) x.members /\ c 1=.int .i64 x.weight
theorem J9s.ext (w w':World) (c:Nat -> Value) (x:Mem) (hx:Ext w w') (h:J9s w c x):J9s w' c x:=⟨h.1,h.2.1,h.2.2.1.ext hx,h.2.2.2.1.ext hx,h.2.2.2.2.1.ext hx,h.2.2.2.2.2⟩
theorem J9f.ext (w w':World) (c:Nat -> Value) (x:Rul) (hx:Ext w w') (h:J9f w c x):J9f w' c x:=⟨h.1.ext hx,h.2⟩
theorem K0k.ext (w w':World) (c:Nat -> Value) (x:Grp) (hx:Ext w w') (h:K0k w c x):K0k w' c x:=⟨h.1.ext hx,h.2⟩
def X0m:World -> Value -> List Mem -> Prop:=Rows 5 J9s
def Q1d:World -> Value -> List Rul -> Prop:=Rows 2 J9f
def Q1q:World -> Value -> List Grp -> Prop:=Rows 2 K0k
theorem X0m.ext {w w':World} {v:Value} {l:List Mem} (h:X0m w v l) (hx:Ext w w'):X0m w' v l:=Rows.ext J9s.ext h hx
theorem Q1d.ext {w w':World} {v:Value} {l:List Rul} (h:Q1d w v l) (hx:Ext w w'):Q1d w' v l:=Rows.ext J9f.ext h hx
theorem Q1q.ext {w w':World} {v:Value} {l:List Grp} (h:Q1q w v l) (hx:Ext w w'):Q1q w' v l:=Rows.ext K0k.ext h hx
structure Q2t (w:World) (a b:Value) (s:Q0b):Prop where
 ships:Q0e w a s.ships
 members:X0m w b s.members
theorem Q2t.ext {w w':World} {a b:Value} {s:Q0b} (h:Q2t w a b s) (hx:Ext w w'):Q2t w' a b s:=⟨h.ships.ext hx,h.members.ext hx⟩
def Q0g (w:World) (v:Value) (s:Q0b):Prop:=∃ a b,v=.agg #[.int .i64 s.limit,a,b] /\ Q2t w a b s
theorem Q0g.ext {w w':World} {v:Value} {s:Q0b} (h:Q0g w v s) (hx:Ext w w'):Q0g w' v s:=let ⟨a,b,hv,h2⟩:=h; ⟨a,b,hv,h2.ext hx⟩
def Q0m (w:World) (v:Value) (p:List Rul):Prop:=∃ a,v=.agg #[a] /\ Q1d w a p
theorem Q0m.ext {w w':World} {v:Value} {p:List Rul} (h:Q0m w v p) (hx:Ext w w'):Q0m w' v p:=let ⟨a,hv,h2⟩:=h; ⟨a,hv,h2.ext hx⟩
def Q1t (l:List Mem) (k:Nat):ByteArray:=(l.getD k default).name
def Q0o (l:List Mem) (k:Nat):Int:=(l.getD k default).weight
def Q0c (l:List Mem) (k:Nat):List Int:=(l.getD k default).classes
def Q0z (l:List Mem) (k:Nat):List Int:=(l.getD k default).outside
def Q1g (l:List Mem) (k:Nat):List Int:=(l.getD k default).inflow
def Q0k (l:List Rul) (k:Nat):List Int:=(l.getD k default).classes
def Q3a (l:List Rul) (k:Nat):Bool:=(l.getD k default).close
def Q1w (l:List Grp) (k:Nat):List Int:=(l.getD k default).members
def Q3n (l:List Grp) (k:Nat):Int:=(l.getD k default).weight
theorem X0m.opened {w:World} {v:Value} {l:List Mem} (h:X0m w v l) :
    ∃ A Qq,v=.slice A l.length Qq /\ l.length <= 17592186043904 /\ l.length <= Qq /\ ∀ k,k < l.length -> ∃ b off x y z,A=some ⟨b,off,none⟩ /\ b < w.heap.size /\
     w.cell? ⟨b,off + k * 5,none⟩=some (.string (Q1t l k)) /\ w.cell? ⟨b,off + k * 5 + 1,none⟩=some (.int .i64 (Q0o l k)) /\
     w.cell? ⟨b,off + k * 5 + 2,none⟩=some x /\ w.cell? ⟨b,off + k * 5 + 3,none⟩=some y /\ w.cell? ⟨b,off + k * 5 + 4,none⟩=some z /\
     Q0e w x (Q0c l k) /\ Q0e w y (Q0z l k) /\ Q0e w z (Q1g l k) /\ Short (Q1t l k):=by
 obtain ⟨c,⟨A,Qq,hv,hn,Kq,hc⟩,h2⟩:=h;refine ⟨A,Qq,hv,hn,Kq,fun k hk=>?_⟩;obtain ⟨b,off,hA,h0⟩:=hc (k * 5) (by omega)
 obtain ⟨b',off',Vx,h1⟩:=hc (k * 5 + 1) (by omega)
 rw [hA] at Vx; cases Vx;obtain ⟨b',off',Vx,h3⟩:=hc (k * 5 + 2) (by omega)
 rw [hA] at Vx; cases Vx;obtain ⟨b',off',Vx,h4⟩:=hc (k * 5 + 3) (by omega)
 rw [hA] at Vx; cases Vx;obtain ⟨b',off',Vx,h5⟩:=hc (k * 5 + 4) (by omega)
 rw [hA] at Vx; cases Vx;obtain ⟨e0,e1,e2,e3,e4,e5⟩:=h2 k hk;simp only [Nat.add_zero] at e0 e1;refine ⟨b,off,c (k * 5 + 2),c (k * 5 + 3),c (k * 5 + 4),hA,World.block_lt_of_cell? w _ h0,?_,?_,?_,?_,?_,?_,?_,?_,?_⟩
 . rw [h0,e0,Q1t,Q0t _ hk]
 . rw [Nat.add_assoc,h1,e1,Q0o,Q0t _ hk]
 . rw [Nat.add_assoc,h3]
 . rw [Nat.add_assoc,h4]
 . rw [Nat.add_assoc,h5]
 . rw [Q0c,Q0t _ hk]; exact e2
 . rw [Q0z,Q0t _ hk]; exact e3
 . rw [Q1g,Q0t _ hk]; exact e4
 . rw [Q1t,Q0t _ hk]; exact e5
theorem Q1d.opened {w:World} {v:Value} {l:List Rul} (h:Q1d w v l) :
    ∃ A Qq,v=.slice A l.length Qq /\ l.length <= 17592186043904 /\ l.length <= Qq /\ ∀ k,k < l.length -> ∃ b off x,A=some ⟨b,off,none⟩ /\ b < w.heap.size /\
     w.cell? ⟨b,off + k * 2,none⟩=some x /\ w.cell? ⟨b,off + k * 2 + 1,none⟩=some (.bool (Q3a l k)) /\ Q0e w x (Q0k l k):=by
 obtain ⟨c,⟨A,Qq,hv,hn,Kq,hc⟩,h2⟩:=h;refine ⟨A,Qq,hv,hn,Kq,fun k hk=>?_⟩;obtain ⟨b,off,hA,h0⟩:=hc (k * 2) (by omega)
 obtain ⟨b',off',Vx,h1⟩:=hc (k * 2 + 1) (by omega)
 rw [hA] at Vx; cases Vx;obtain ⟨e0,e1⟩:=h2 k hk;simp only [Nat.add_zero] at e0 e1;refine ⟨b,off,c (k * 2),hA,World.block_lt_of_cell? w _ h0,?_,?_,?_⟩
 . rw [h0]
 . rw [Nat.add_assoc,h1,e1,Q3a,Q0t _ hk]
 . rw [Q0k,Q0t _ hk]; exact e0
theorem Q1q.opened {w:World} {v:Value} {l:List Grp} (h:Q1q w v l) :
    ∃ A Qq,v=.slice A l.length Qq /\ l.length <= 17592186043904 /\ l.length <= Qq /\ ∀ k,k < l.length -> ∃ b off x,A=some ⟨b,off,none⟩ /\ b < w.heap.size /\
     w.cell? ⟨b,off + k * 2,none⟩=some x /\ w.cell? ⟨b,off + k * 2 + 1,none⟩=some (.int .i64 (Q3n l k)) /\ Q0e w x (Q1w l k):=by
 obtain ⟨c,⟨A,Qq,hv,hn,Kq,hc⟩,h2⟩:=h;refine ⟨A,Qq,hv,hn,Kq,fun k hk=>?_⟩;obtain ⟨b,off,hA,h0⟩:=hc (k * 2) (by omega)
 obtain ⟨b',off',Vx,h1⟩:=hc (k * 2 + 1) (by omega)
 rw [hA] at Vx; cases Vx;obtain ⟨e0,e1⟩:=h2 k hk;simp only [Nat.add_zero] at e0 e1;refine ⟨b,off,c (k * 2),hA,World.block_lt_of_cell? w _ h0,?_,?_,?_⟩
 . rw [h0]
 . rw [Nat.add_assoc,h1,e1,Q3n,Q0t _ hk]
 . rw [Q1w,Q0t _ hk]; exact e0
end Go.Tw
namespace Go.Proofs
open Go.RowKit Go.Tw Go.ChangeShapes Go.WideShapes Go.Deep Tryz
section
variable {H:Type} {enc:TypeId × Value -> H} {W:World}
def Q9z (t:TypeId) (d:DataW H):Prop:=∀ x ∈ d.weights prog t,x <= 140737488351232
theorem Y4e (b off n:Nat):(⟨b,off,none⟩:Addr).add n=⟨b,off + n,none⟩:=by
 unfold Addr.add
 split
 . simp_all
 . rfl
theorem Q7z {α:Type} [Inhabited α] {t e:TypeId} {k bts fuel:Nat} {v:Value} {y:DataW H × List MemPlace} {R:World -> (Nat -> Value) -> α -> Prop} (ht:prog.underlying t=some (.slice e)) (hc:prog.cellsOf e=k) (hk:0 < k) (hb:prog.bytesOf e=bts) (h8:8 <= bts)
    (TZ:∀ (cs:List Value) (y:DataW H × List MemPlace) (n:Nat),cs.length=k -> DataW.trod enc prog W 0 (fun _=>true) true n e cs=some y -> Q9z e y.1 -> ∃ x:α,R W (fun i=>cs.getD i undef) x)
    (Yg:∀ (w:World) (c c':Nat -> Value) (x:α),(∀ i,i < k -> c i=c' i) -> R w c x -> R w c' x)
    (h:DataW.trod enc prog W 0 (fun _=>true) true fuel t [v]=some y) (hw:Q9z t y.1):∃ l:List α,Go.Tw.Rows k R W v l:=by
 rcases open_slice ht h with ⟨Bk,_⟩ | ⟨a,len,Qq,m,n,D,Pl,Bk,_,mj,_,hm,rfl,hx⟩
 . obtain rfl:v=.slice none 0 0:=by simpa using Bk
   exact ⟨[],Go.Tw.Rows.nil _ _ _⟩
 . obtain rfl:v=.slice (some a) len Qq:=by simpa using Bk
   simp only [if_true] at hm;subst hm;rw [hc] at hx;have Py:(len + (m - len)) * bts <= 140737488351232:=by
    have:=hw ((((List.range len).map D).length + ((List.range (m - len)).map fun j=>D (len + j)).length) * prog.bytesOf e) (by simp [DataW.weights,ht])
    simpa [hb] using this
   have yp:m * 8 <= 140737488351232:=by
    have h1:m=len + (m - len):=by omega
    rw [<- h1] at Py;exact Nat.le_trans (Nat.mul_le_mul_left m h8) Py
   have Gz:∀ i,i < len -> Q9z e (D i):=by
    intro i hi x hx';refine hw x ?_;have e1:∀ (l:List (DataW H)) d,d ∈ l -> x ∈ d.weights prog e -> x ∈ DataW.weightsAll prog e l:=by
     intro l
     induction l with
     | nil=>intro d hd; cases hd
     | cons d0 l ih =>
       intro d hd Zq;rw [DataW.weightsAll]
       rcases List.mem_cons.1 hd with rfl | hd
       . exact List.mem_append_left _ Zq
       . exact List.mem_append_right _ (ih d hd Zq)
    simp only [DataW.weights,ht];refine List.mem_cons_of_mem _ (List.mem_append_left _ (e1 _ (D i) ?_ hx'));exact List.mem_map.2 ⟨i,List.mem_range.2 hi,rfl⟩
   obtain ⟨f,hf⟩:=choose_lt (α:=List Value) (n:=len) (p:=fun i cs=>(∀ r,r < k -> W.cell? ((a.add (i * k)).add r)=cs[r]?) /\ cs.length=k /\ ∃ x:α,R W (fun j=>cs.getD j undef) x) (fun i hi=>by
    obtain ⟨cs,h1,h2⟩:=hx i (by omega)
    obtain ⟨_,h3,h4⟩:=World.cells?_some h1;exact ⟨cs,h4,h3,TZ cs _ n h3 h2 (Gz i hi)⟩)
   obtain ⟨g,hg⟩:=choose_lt (α:=α) (n:=len) (p:=fun i x=>R W (fun j=>(f i).getD j undef) x) (fun i hi=>(hf i hi).2.2)
   have hR:∀ i,i < len -> R W (fun j=>(f ((i * k + j) / k)).getD ((i * k + j) % k) undef) (g i):=fun i hi=>Yg W _ _ _ (fun j hj=>by
    have e1:(i * k + j) / k=i:=by rw [Nat.mul_comm,Nat.mul_add_div hk,Nat.div_eq_of_lt hj,Nat.add_zero]
    have e2:(i * k + j) % k=j:=by rw [Nat.mul_comm,Nat.mul_add_mod,Nat.mod_eq_of_lt hj]
    rw [e1,e2]) (hg i hi)
   refine ⟨(List.range len).map g,fun j=>(f (j / k)).getD (j % k) undef,⟨some a,m,by simp,by simp; omega,by simpa using mj,fun j hj=>?_⟩,fun j hj=>?_⟩
   . have Sv:j < len * k:=by simpa using hj
     have hq:j / k < len:=(Nat.div_lt_iff_lt_mul hk).2 Sv;have hr:j % k < k:=Nat.mod_lt _ hk;obtain ⟨h1,h2,_⟩:=hf (j / k) hq;have h3:=h1 (j % k) hr;rw [List.getElem?_eq_getElem (by omega)] at h3
     have bw:a.spot=none:=by
      obtain ⟨g1,g2,_⟩:=hf 0 (Nat.lt_of_le_of_lt (Nat.zero_le _) hq);have g3:=g1 0 hk;rw [List.getElem?_eq_getElem (by omega)] at g3
      have:=World.cell?_spot g3
      simpa [Addr.add] using this
     obtain ⟨b,off,spot⟩:=a;obtain rfl:spot=none:=bw;refine ⟨b,off,rfl,?_⟩;have e:(((⟨b,off,none⟩:Addr).add (j / k * k)).add (j % k))=⟨b,off + j,none⟩:=by
      rw [Y4e,Y4e,Nat.add_assoc];have:j / k * k + j % k=j:=by rw [Nat.mul_comm]; exact Nat.div_add_mod j k
      rw [this]
     rw [e] at h3;rw [h3];simp [h2,hr]
   . have Sv:j < len:=by simpa using hj
     have:=hR j Sv
     simpa using this
theorem Tryz.c3:prog.cellsOf 3=1:=by kernel_rfl
theorem Tryz.b3:prog.bytesOf 3=8:=by kernel_rfl
theorem Q4p {fuel:Nat} {v:Value} {y:DataW H × List MemPlace} (h:DataW.trod enc prog W 0 (fun _=>true) true fuel 22 [v]=some y) (hw:Q9z 22 y.1):∃ l,Q0e W v l :=
 Q7z (α:=Int) underlying22 Tryz.c3 (by decide) Tryz.b3 (by decide) (fun cs y n hl h _=>by
  obtain ⟨z,rfl,_,_⟩:=DataW.trod_int underlying3 h;exact ⟨z,rfl⟩) (fun _ c c' x hc h=>by rw [<- hc 0 (by decide)]; exact h) h hw
theorem str_of_trod {fuel:Nat} {v:Value} {y:DataW H × List MemPlace} (h:DataW.trod enc prog W 0 (fun _=>true) true fuel 9 [v]=some y) (hw:Q9z 9 y.1):∃ s,v=.string s /\ Short s:=by
 obtain ⟨s,h1,rfl,_⟩:=DataW.trod_string underlying9 h;refine ⟨s,by simpa using h1,?_⟩
 have:=hw s.data.toList.length (by simp [DataW.weights])
 have e:s.data.toList.length=s.size:=Array.length_toList;unfold Short;omega
theorem int_of_trod {fuel:Nat} {v:Value} {y:DataW H × List MemPlace} (h:DataW.trod enc prog W 0 (fun _=>true) true fuel 3 [v]=some y):∃ z,v=.int .i64 z:=by
 obtain ⟨z,h1,_,_⟩:=DataW.trod_int underlying3 h;exact ⟨z,by simpa using h1⟩
theorem Q2n {t:TypeId} {ts:List TypeId} {d:DataW H} {ds:List (DataW H)} (h:∀ x ∈ DataW.weightsEach prog (t :: ts) (d :: ds),x <= 140737488351232):Q9z t d /\ ∀ x ∈ DataW.weightsEach prog ts ds,x <= 140737488351232:=by
 rw [DataW.weightsEach] at h;exact ⟨fun x hx=>h x (List.mem_append_left _ hx),fun x hx=>h x (List.mem_append_right _ hx)⟩
theorem Tryz.cS:prog.cellsOf 9=1:=by kernel_rfl
theorem Tryz.cI:prog.cellsOf 22=1:=by kernel_rfl
theorem Tryz.cBo:prog.cellsOf 4=1:=by kernel_rfl
theorem Z1k {t:TypeId} {f0 f1 f2 f3 f4:Field} {fuel:Nat} {cs:List Value} {x:DataW H × List MemPlace} (ht:prog.underlying t=some (.struct #[f0,f1,f2,f3,f4])) (h:DataW.trod enc prog W 0 (fun _=>true) true fuel t cs=some x) :
    ∃ y0 y1 y2 y3 y4 n,x=(.agg [y0.1,y1.1,y2.1,y3.1,y4.1],y0.2 ++ (y1.2 ++ (y2.2 ++ (y3.2 ++ y4.2)))) /\ cs.length=prog.cellsOf t /\ DataW.trod enc prog W 0 (fun _=>true) true n f0.type ((cs.drop f0.offset).take (prog.cellsOf f0.type))=some y0 /\
     DataW.trod enc prog W 0 (fun _=>true) true n f1.type ((cs.drop f1.offset).take (prog.cellsOf f1.type))=some y1 /\ DataW.trod enc prog W 0 (fun _=>true) true n f2.type ((cs.drop f2.offset).take (prog.cellsOf f2.type))=some y2 /\
     DataW.trod enc prog W 0 (fun _=>true) true n f3.type ((cs.drop f3.offset).take (prog.cellsOf f3.type))=some y3 /\ DataW.trod enc prog W 0 (fun _=>true) true n f4.type ((cs.drop f4.offset).take (prog.cellsOf f4.type))=some y4:=by
 obtain ⟨xs,n,_,rfl,hl,Fq,hf⟩:=DataW.trod_struct ht h
 match xs,Fq with
 | [y0,y1,y2,y3,y4],_=>exact ⟨y0,y1,y2,y3,y4,n,by simp,hl,by simpa using hf 0 f0 rfl,by simpa using hf 1 f1 rfl,by simpa using hf 2 f2 rfl,by simpa using hf 3 f3 rfl,by simpa using hf 4 f4 rfl⟩
theorem Tryz.cMb:prog.cellsOf 68=5:=by kernel_rfl
theorem Tryz.bMb:prog.bytesOf 68=96:=by kernel_rfl
theorem Tryz.cRu:prog.cellsOf 115=2:=by kernel_rfl
theorem Tryz.bRu:prog.bytesOf 115=32:=by kernel_rfl
theorem Z1o {fuel:Nat} {v:Value} {y:DataW H × List MemPlace} (h:DataW.trod enc prog W 0 (fun _=>true) true fuel 4 [v]=some y):∃ z,v=.bool z:=by
 obtain ⟨z,h1,_⟩:=DataW.trod_bool underlying4 h;exact ⟨z,by simpa using h1⟩
theorem Y9j {fuel:Nat} {v:Value} {y:DataW H × List MemPlace} (h:DataW.trod enc prog W 0 (fun _=>true) true fuel 23 [v]=some y) (hw:Q9z 23 y.1):∃ l,X0m W v l :=
 Q7z (α:=Mem) underlying23 Tryz.cMb (by decide) Tryz.bMb (by decide) (fun cs y n hl h hw=>by
  obtain ⟨y0,y1,y2,y3,y4,m,rfl,_,h0,h1,h2,h3,h4⟩:=Z1k underlying68 h
  match cs,hl with
  | [c0,c1,c2,c3,c4],_ =>
    have T1:∀ x ∈ DataW.weightsEach prog [9,3,22,22,22] [y0.1,y1.1,y2.1,y3.1,y4.1],x <= 140737488351232:=fun x hx=>hw x (by simpa [DataW.weights,underlying68] using hx)
    obtain ⟨w0,r0⟩:=Q2n T1;obtain ⟨_,r1⟩:=Q2n r0;obtain ⟨w2,r2⟩:=Q2n r1;obtain ⟨w3,r3⟩:=Q2n r2;obtain ⟨w4,_⟩:=Q2n r3;have Aw:DataW.trod enc prog W 0 (fun _=>true) true m 9 [c0]=some y0:=by simpa [Tryz.cS,Tryz.c3,Tryz.cI] using h0
    have Oy:DataW.trod enc prog W 0 (fun _=>true) true m 3 [c1]=some y1:=by simpa [Tryz.cS,Tryz.c3,Tryz.cI] using h1
    have b6:DataW.trod enc prog W 0 (fun _=>true) true m 22 [c2]=some y2:=by simpa [Tryz.cS,Tryz.c3,Tryz.cI] using h2
    have ii:DataW.trod enc prog W 0 (fun _=>true) true m 22 [c3]=some y3:=by simpa [Tryz.cS,Tryz.c3,Tryz.cI] using h3
    have gi:DataW.trod enc prog W 0 (fun _=>true) true m 22 [c4]=some y4:=by simpa [Tryz.cS,Tryz.c3,Tryz.cI] using h4
    obtain ⟨s,rfl,hs⟩:=str_of_trod Aw w0;obtain ⟨z,rfl⟩:=int_of_trod Oy;obtain ⟨l2,zw⟩:=Q4p b6 w2;obtain ⟨l3,mg⟩:=Q4p ii w3;obtain ⟨l4,SZ⟩:=Q4p gi w4;exact ⟨⟨s,z,l2,l3,l4⟩,rfl,rfl,zw,mg,SZ,hs⟩)
  (fun _ c c' x hc h=>⟨by rw [<- hc 0 (by decide)]; exact h.1,by rw [<- hc 1 (by decide)]; exact h.2.1,by rw [<- hc 2 (by decide)]; exact h.2.2.1,by rw [<- hc 3 (by decide)]; exact h.2.2.2.1,by rw [<- hc 4 (by decide)]; exact h.2.2.2.2.1,h.2.2.2.2.2⟩) h hw
theorem Y6q {fuel:Nat} {v:Value} {y:DataW H × List MemPlace} (h:DataW.trod enc prog W 0 (fun _=>true) true fuel 45 [v]=some y) (hw:Q9z 45 y.1):∃ l,Q1d W v l :=
 Q7z (α:=Rul) underlying45 Tryz.cRu (by decide) Tryz.bRu (by decide) (fun cs y n hl h hw=>by
  obtain ⟨y0,y1,m,rfl,_,h0,h1⟩:=trod_struct2 underlying115 h
  match cs,hl with
  | [c0,c1],_ =>
    have T1:∀ x ∈ DataW.weightsEach prog [22,4] [y0.1,y1.1],x <= 140737488351232:=fun x hx=>hw x (by simpa [DataW.weights,underlying115] using hx)
    obtain ⟨w0,_⟩:=Q2n T1;have Aw:DataW.trod enc prog W 0 (fun _=>true) true m 22 [c0]=some y0:=by simpa [Tryz.cI,Tryz.cBo] using h0
    have Oy:DataW.trod enc prog W 0 (fun _=>true) true m 4 [c1]=some y1:=by simpa [Tryz.cI,Tryz.cBo] using h1
    obtain ⟨l,hl⟩:=Q4p Aw w0;obtain ⟨z,rfl⟩:=Z1o Oy;exact ⟨⟨l,z⟩,hl,rfl⟩)
  (fun _ c c' x hc h=>⟨by rw [<- hc 0 (by decide)]; exact h.1,by rw [<- hc 1 (by decide)]; exact h.2⟩) h hw
theorem Tryz.cSn:prog.cellsOf 25=3:=by kernel_rfl
theorem Y2s {b0:Nat} {v:Value} {d:DataW H} {ps:List MemPlace} (hv:Value.okWide prog W .any b0 25 v) (h:DataW.Trod enc prog W 0 (fun _=>true) true 25 v d ps) (hw:Q9z 25 d):∃ t,Q0g W v t:=by
 obtain ⟨cs,rfl,pq⟩:=okWide_struct underlying25 hv;rw [Tryz.cSn] at pq;obtain ⟨c0,c1,c2,rfl⟩:∃ a b c,cs=#[a,b,c]:=by
  obtain ⟨l⟩:=cs
  match l,pq with
  | [a,b,c],_=>exact ⟨a,b,c,rfl⟩
 obtain ⟨fuel,hf⟩:=h;obtain ⟨y0,y1,y2,m,hx,_,h0,h1,h2⟩:=trod_struct3 underlying25 hf;simp only [Prod.mk.injEq] at hx;obtain ⟨rfl,_⟩:=hx;have T1:∀ x ∈ DataW.weightsEach prog [3,22,23] [y0.1,y1.1,y2.1],x <= 140737488351232:=fun x hx=>hw x (by simpa [DataW.weights,underlying25] using hx)
 obtain ⟨_,r0⟩:=Q2n T1;obtain ⟨w1,r1⟩:=Q2n r0;obtain ⟨w2,_⟩:=Q2n r1;have e2:prog.cellsOf 23=1:=by kernel_rfl
 have Aw:DataW.trod enc prog W 0 (fun _=>true) true m 3 [c0]=some y0:=by simpa [Tryz.c3,Tryz.cI,e2,Value.cells] using h0
 have Oy:DataW.trod enc prog W 0 (fun _=>true) true m 22 [c1]=some y1:=by simpa [Tryz.c3,Tryz.cI,e2,Value.cells] using h1
 have b6:DataW.trod enc prog W 0 (fun _=>true) true m 23 [c2]=some y2:=by simpa [Tryz.c3,Tryz.cI,e2,Value.cells] using h2
 obtain ⟨z,rfl⟩:=int_of_trod Aw;obtain ⟨b,hb⟩:=Q4p Oy w1;obtain ⟨c,hc⟩:=Y9j b6 w2;exact ⟨⟨z,b,c⟩,_,_,rfl,⟨hb,hc⟩⟩
end
end Go.Proofs
namespace Go.Proofs
open Go.Shelf Tryz
def Tryz.lays169_ren:Go.Shelf.Ren:=⟨fun | 169=>150 | n=>n,fun | 70=>211 | 9=>9 | 0=>0 | 72=>214 | 37=>212 | 127=>253 | 3=>3 | 5=>5 | n=>n,fun | n=>n⟩
theorem Tryz.lays169:Go.Proofs.Lays.n169 prog Tryz.lays169_ren:={
 mixed:=by kernel_rfl
 f169:=func150.trans (congrArg some (by kernel_rfl))
 t0:=underlying0
 a0:=Tryz.isAgg0
 z0:=Tryz.sizeOf0
 v0:=Tryz.zeroValue0
 t3:=underlying3
 a3:=Tryz.isAgg3
 z3:=Tryz.sizeOf3
 v3:=Tryz.zeroValue3
 t9:=underlying9
 a9:=Tryz.isAgg9
 z9:=Tryz.sizeOf9
 v9:=Tryz.zeroValue9
 t37:=underlying212
 a37:=Tryz.isAgg212
 z37:=Tryz.sizeOf212
 v37:=Tryz.zeroValue212
 t70:=underlying211
 a70:=Tryz.isAgg211
 z70:=Tryz.sizeOf211
 v70:=Tryz.zeroValue211
 t72:=underlying214
 a72:=Tryz.isAgg214
 z72:=Tryz.sizeOf214
 v72:=Tryz.zeroValue214
 t127:=underlying253
 a127:=Tryz.isAgg253
 z127:=Tryz.sizeOf253
 v127:=Tryz.zeroValue253 }
theorem Tryz.Builder_Extra_169:Builder.Extra prog Tryz.lays169_ren:={
 sizeBuilder:=by kernel_rfl
 liesBuilder:=by kernel_rfl
 t5:=underlying5
 a5:=Tryz.isAgg5
 z5:=Tryz.sizeOf5
 v5:=Tryz.zeroValue5
 infoByte:=by kernel_rfl
 cellsByte:=by kernel_rfl
 sizeByte:=by kernel_rfl
 neB5:=by decide }
open Go.RowKit in
theorem Tryz.Builder_String_any (B b:Nat) (l:List UInt8) (w:World) (h:Lib.IsBuilder 214 5 B b (Lib.byteCells l) w) (fi:B <= w.heap.size) :
    Calls prog 150 #[.pointer (some ⟨b,0,none⟩)] w fun e w'=>e=.returned (.string ⟨l.toArray⟩) /\ Below B w w':=Any.Builder_String_any Tryz.lays169 Tryz.Builder_Extra_169 B b l w h fi
open Go.RowKit in
def Tryz.lays156_ren:Go.Shelf.Ren:=⟨fun | 156=>149 | 165=>180 | 166=>148 | 169=>150 | 240=>179 | 241=>193 | 276=>192 | 277=>217 | n=>n,fun | 31=>157 | 9=>9 | 3=>3 | 4=>4 | 0=>0 | 20=>20 | 72=>214 | 76=>220 | 70=>211 | 37=>212 | 75=>219 | 127=>253 | 164=>266 | 5=>5 | 80=>223 | n=>n,fun | n=>n⟩
theorem Tryz.lays156:Go.Proofs.Lays.n156 prog Tryz.lays156_ren:={
 mixed:=by kernel_rfl
 f156:=func149.trans (congrArg some (by kernel_rfl))
 f165:=func180.trans (congrArg some (by kernel_rfl))
 f166:=func148.trans (congrArg some (by kernel_rfl))
 f169:=func150.trans (congrArg some (by kernel_rfl))
 f240:=func179.trans (congrArg some (by kernel_rfl))
 f241:=func193.trans (congrArg some (by kernel_rfl))
 f276:=func192.trans (congrArg some (by kernel_rfl))
 f277:=func217.trans (congrArg some (by kernel_rfl))
 t0:=underlying0
 a0:=Tryz.isAgg0
 z0:=Tryz.sizeOf0
 v0:=Tryz.zeroValue0
 t3:=underlying3
 a3:=Tryz.isAgg3
 z3:=Tryz.sizeOf3
 v3:=Tryz.zeroValue3
 t4:=underlying4
 a4:=Tryz.isAgg4
 z4:=Tryz.sizeOf4
 v4:=Tryz.zeroValue4
 t9:=underlying9
 a9:=Tryz.isAgg9
 z9:=Tryz.sizeOf9
 v9:=Tryz.zeroValue9
 t20:=underlying20
 a20:=Tryz.isAgg20
 z20:=Tryz.sizeOf20
 v20:=Tryz.zeroValue20
 t31:=underlying157
 a31:=Tryz.isAgg157
 z31:=Tryz.sizeOf157
 v31:=Tryz.zeroValue157
 t37:=underlying212
 a37:=Tryz.isAgg212
 z37:=Tryz.sizeOf212
 v37:=Tryz.zeroValue212
 t70:=underlying211
 a70:=Tryz.isAgg211
 z70:=Tryz.sizeOf211
 v70:=Tryz.zeroValue211
 t72:=underlying214
 a72:=Tryz.isAgg214
 z72:=Tryz.sizeOf214
 v72:=Tryz.zeroValue214
 t75:=underlying219
 a75:=Tryz.isAgg219
 z75:=Tryz.sizeOf219
 v75:=Tryz.zeroValue219
 t76:=underlying220
 a76:=Tryz.isAgg220
 z76:=Tryz.sizeOf220
 v76:=Tryz.zeroValue220
 t127:=underlying253
 a127:=Tryz.isAgg253
 z127:=Tryz.sizeOf253
 v127:=Tryz.zeroValue253
 t164:=underlying266
 a164:=Tryz.isAgg266
 z164:=Tryz.sizeOf266
 v164:=Tryz.zeroValue266 }
theorem Tryz.Builder_Extra_156:Builder.Extra prog Tryz.lays156_ren:={
 sizeBuilder:=by kernel_rfl
 liesBuilder:=by kernel_rfl
 t5:=underlying5
 a5:=Tryz.isAgg5
 z5:=Tryz.sizeOf5
 v5:=Tryz.zeroValue5
 infoByte:=by kernel_rfl
 cellsByte:=by kernel_rfl
 sizeByte:=by kernel_rfl
 neB5:=by decide }
open Go.RowKit in
theorem Tryz.strings_Join (bk o c:Nat) (xs:List ByteArray) (sep:ByteArray) (w:World) (L4:∀ (j:Nat) x,xs[j]?=some x -> w.cell? ⟨bk,o + j,none⟩=some (.string x)) (qj:bk < w.heap.size) (hN:xs.length <= 140737488355328) (Kq:xs.length <= c) (Fq:(Lib.join (xs.map (·.data.toList)) sep.data.toList).length <= 140737488355328) :
    Calls prog 149 #[.slice (some ⟨bk,o,none⟩) xs.length c,.string sep] w fun e w'=>e=.returned (.string ⟨(Lib.join (xs.map (·.data.toList)) sep.data.toList).toArray⟩) /\ Below w.heap.size w w':=Any.strings_Join Tryz.lays156 Tryz.Builder_Extra_156 bk o c xs sep w L4 qj hN Kq Fq
open Go.RowKit Go.Sort Go.Lib in
def Tryz.Z3q:Go.Shelf.Ren:=⟨fun | 171=>147 | 243=>178 | 246=>191 | 283=>213 | 284=>214 | 285=>215 | 286=>216 | 129=>211 | 317=>238 | 318=>239 | 319=>240 | 320=>241 | 337=>249 | 338=>250 | n=>n,fun | 3=>3 | 9=>9 | 2=>2 | 4=>4 | 171=>288 | 0=>0 | 53=>287 | 37=>212 | 5=>5 | 173=>290 | 212=>311 | 51=>285 | 20=>20 | 213=>312 | 46=>262 | 232=>321 | 233=>322 | n=>n,fun | 17=>2 | 18=>3 | 19=>4 | n=>n⟩
theorem Tryz.lays171:Go.Proofs.Lays.n171 prog Z3q:={
 mixed:=by kernel_rfl
 f129:=func211.trans (congrArg some (by kernel_rfl))
 f171:=func147.trans (congrArg some (by kernel_rfl))
 f243:=func178.trans (congrArg some (by kernel_rfl))
 f246:=func191.trans (congrArg some (by kernel_rfl))
 f283:=func213.trans (congrArg some (by kernel_rfl))
 f284:=func214.trans (congrArg some (by kernel_rfl))
 f285:=func215.trans (congrArg some (by kernel_rfl))
 f286:=func216.trans (congrArg some (by kernel_rfl))
 f317:=func238.trans (congrArg some (by kernel_rfl))
 f318:=func239.trans (congrArg some (by kernel_rfl))
 f319:=func240.trans (congrArg some (by kernel_rfl))
 f320:=func241.trans (congrArg some (by kernel_rfl))
 f337:=func249.trans (congrArg some (by kernel_rfl))
 f338:=func250.trans (congrArg some (by kernel_rfl))
 t0:=underlying0
 a0:=Tryz.isAgg0
 z0:=Tryz.sizeOf0
 v0:=Tryz.zeroValue0
 t2:=underlying2
 a2:=Tryz.isAgg2
 z2:=Tryz.sizeOf2
 v2:=Tryz.zeroValue2
 t3:=underlying3
 a3:=Tryz.isAgg3
 z3:=Tryz.sizeOf3
 v3:=Tryz.zeroValue3
 t4:=underlying4
 a4:=Tryz.isAgg4
 z4:=Tryz.sizeOf4
 v4:=Tryz.zeroValue4
 t5:=underlying5
 a5:=Tryz.isAgg5
 z5:=Tryz.sizeOf5
 v5:=Tryz.zeroValue5
 t9:=underlying9
 a9:=Tryz.isAgg9
 z9:=Tryz.sizeOf9
 v9:=Tryz.zeroValue9
 t20:=underlying20
 a20:=Tryz.isAgg20
 z20:=Tryz.sizeOf20
 v20:=Tryz.zeroValue20
 t37:=underlying212
 a37:=Tryz.isAgg212
 z37:=Tryz.sizeOf212
 v37:=Tryz.zeroValue212
 t46:=underlying262
 a46:=Tryz.isAgg262
 z46:=Tryz.sizeOf262
 v46:=Tryz.zeroValue262
 t51:=underlying285
 a51:=Tryz.isAgg285
 z51:=Tryz.sizeOf285
 v51:=Tryz.zeroValue285
 t53:=underlying287
 a53:=Tryz.isAgg287
 z53:=Tryz.sizeOf287
 v53:=Tryz.zeroValue287
 t171:=underlying288
 a171:=Tryz.isAgg288
 z171:=Tryz.sizeOf288
 v171:=Tryz.zeroValue288
 t173:=underlying290
 a173:=Tryz.isAgg290
 z173:=Tryz.sizeOf290
 v173:=Tryz.zeroValue290
 t212:=underlying311
 a212:=Tryz.isAgg311
 z212:=Tryz.sizeOf311
 v212:=Tryz.zeroValue311
 t213:=underlying312
 a213:=Tryz.isAgg312
 z213:=Tryz.sizeOf312
 t232:=underlying321
 a232:=Tryz.isAgg321
 z232:=Tryz.sizeOf321
 v232:=Tryz.zeroValue321
 t233:=underlying322
 a233:=Tryz.isAgg322
 z233:=Tryz.sizeOf322
 v233:=Tryz.zeroValue322
 g17:=by kernel_rfl
 g18:=by kernel_rfl
 g19:=by kernel_rfl }
open Go.RowKit Go.Sort Go.Lib in
theorem Tryz.strconv_Itoa_small (i:Nat) (hi:i < 100) (w:World) :
    Calls prog 147 #[.int .i64 i] w fun e w'=>e=.returned (.string ⟨(Lib.decDigits i).toArray⟩) /\ w'=w:=Any.strconv_Itoa_small Tryz.lays171 i hi w
open Go.Lib in
def Tryz.Y5a:Go.Shelf.Ren:=⟨fun | 15=>174 | n=>n,fun | 22=>22 | 3=>3 | 4=>4 | n=>n,fun | n=>n⟩
theorem Tryz.laysNm215:Go.Proofs.Lays2.n15 prog Y5a:={
 mixed:=by kernel_rfl
 f15:=func174.trans (congrArg some (by kernel_rfl))
 t3:=underlying3
 a3:=Tryz.isAgg3
 z3:=Tryz.sizeOf3
 v3:=Tryz.zeroValue3
 t4:=underlying4
 a4:=Tryz.isAgg4
 z4:=Tryz.sizeOf4
 v4:=Tryz.zeroValue4
 t22:=underlying22
 a22:=Tryz.isAgg22
 z22:=Tryz.sizeOf22
 v22:=Tryz.zeroValue22
 i3:=by kernel_rfl }
open Go.RowKit Go.Lib in
theorem Tryz.slices_Clone_int (b off n c:Nat) (zs:List Int) (w:World) (hz:n <= zs.length) (WG:n * 8 <= 140737488355328) (hc:∀ j,j < zs.length -> w.cell? ⟨b,off + j,none⟩=some (.int .i64 (zs.getD j 0))) :
    Calls prog 174 #[.slice (some ⟨b,off,none⟩) n c] w fun e w'=>∃ v',e=.returned v' /\ w'.ownsRow w.heap.size 3 1 v' n ((zs.take n).map (Value.int .i64)) /\ v' ≠ .slice none 0 0 /\ Below w.heap.size w w':=Any.slices_Clone_int Tryz.laysNm215 b off n c zs w hz WG hc
open Go.RowKit Go.Lib in
theorem Tryz.slices_Clone_int_nil (n c:Nat) (w:World) :
    Calls prog 174 #[.slice none n c] w fun e w'=>e=.returned (.slice none 0 0) /\ w'=w:=Any.slices_Clone_int_nil Tryz.laysNm215 n c w
open Go.RowKit Go.Lib in
theorem Tryz.slices_Clone_int_zero (a:Addr) (c:Nat) (w:World) :
    Calls prog 174 #[.slice (some a) 0 c] w fun e w'=>∃ v',e=.returned v' /\ w'.ownsRow w.heap.size 3 1 v' 0 [] /\ v' ≠ .slice none 0 0 /\ Below w.heap.size w w':=Any.slices_Clone_int_zero Tryz.laysNm215 a c w
open Go.RowKit Go.Lib in
def Tryz.Z2q:Go.Shelf.Ren:=⟨fun | 6=>159 | 15=>187 | 14=>186 | 28=>210 | 29=>211 | 20=>202 | 21=>203 | 22=>204 | 23=>205 | 24=>206 | 25=>207 | 26=>208 | 27=>209 | 46=>233 | 47=>234 | 48=>235 | 49=>236 | 50=>237 | 57=>248 | n=>n,fun | 22=>168 | 24=>166 | 25=>237 | 3=>3 | 39=>262 | 0=>0 | 53=>285 | 55=>287 | 4=>4 | 46=>278 | 45=>277 | 50=>282 | 5=>5 | 9=>9 | 66=>304 | 70=>308 | 76=>319 | 77=>89 | n=>n,fun | n=>n⟩
theorem Tryz.J7r:Go.Proofs.SlLaysF.n6 prog Z2q:={
 mixed:=by kernel_rfl
 f6:=⟨Tryz.f159.name,by decide,func159.trans (congrArg some (by kernel_rfl))⟩
 f14:=⟨Tryz.f186.name,by decide,func186.trans (congrArg some (by kernel_rfl))⟩
 f15:=func187.trans (congrArg some (by kernel_rfl))
 f20:=⟨Tryz.f202.name,by decide,func202.trans (congrArg some (by kernel_rfl))⟩
 f21:=⟨Tryz.f203.name,by decide,func203.trans (congrArg some (by kernel_rfl))⟩
 f22:=⟨Tryz.f204.name,by decide,func204.trans (congrArg some (by kernel_rfl))⟩
 f23:=⟨Tryz.f205.name,by decide,func205.trans (congrArg some (by kernel_rfl))⟩
 f24:=⟨Tryz.f206.name,by decide,func206.trans (congrArg some (by kernel_rfl))⟩
 f25:=⟨Tryz.f207.name,by decide,func207.trans (congrArg some (by kernel_rfl))⟩
 f26:=⟨Tryz.f208.name,by decide,func208.trans (congrArg some (by kernel_rfl))⟩
 f27:=⟨Tryz.f209.name,by decide,func209.trans (congrArg some (by kernel_rfl))⟩
 f28:=func210.trans (congrArg some (by kernel_rfl))
 f29:=func211.trans (congrArg some (by kernel_rfl))
 f46:=⟨Tryz.f233.name,by decide,func233.trans (congrArg some (by kernel_rfl))⟩
 f47:=func234.trans (congrArg some (by kernel_rfl))
 f48:=func235.trans (congrArg some (by kernel_rfl))
 f49:=⟨Tryz.f236.name,by decide,func236.trans (congrArg some (by kernel_rfl))⟩
 f50:=⟨Tryz.f237.name,by decide,func237.trans (congrArg some (by kernel_rfl))⟩
 f57:=⟨Tryz.f248.name,by decide,func248.trans (congrArg some (by kernel_rfl))⟩
 t0:=underlying0
 a0:=Tryz.isAgg0
 z0:=Tryz.sizeOf0
 v0:=Tryz.zeroValue0
 t3:=underlying3
 a3:=Tryz.isAgg3
 z3:=Tryz.sizeOf3
 v3:=Tryz.zeroValue3
 t4:=underlying4
 a4:=Tryz.isAgg4
 z4:=Tryz.sizeOf4
 v4:=Tryz.zeroValue4
 t5:=underlying5
 a5:=Tryz.isAgg5
 z5:=Tryz.sizeOf5
 v5:=Tryz.zeroValue5
 t9:=underlying9
 a9:=Tryz.isAgg9
 z9:=Tryz.sizeOf9
 v9:=Tryz.zeroValue9
 t22:=underlying168
 a22:=Tryz.isAgg168
 z22:=Tryz.sizeOf168
 v22:=Tryz.zeroValue168
 a24:=Tryz.isAgg166
 z24:=Tryz.sizeOf166
 t25:=underlying237
 a25:=Tryz.isAgg237
 z25:=Tryz.sizeOf237
 v25:=Tryz.zeroValue237
 t39:=underlying262
 a39:=Tryz.isAgg262
 z39:=Tryz.sizeOf262
 v39:=Tryz.zeroValue262
 t45:=underlying277
 a45:=Tryz.isAgg277
 z45:=Tryz.sizeOf277
 v45:=Tryz.zeroValue277
 t46:=underlying278
 a46:=Tryz.isAgg278
 z46:=Tryz.sizeOf278
 v46:=Tryz.zeroValue278
 t50:=underlying282
 a50:=Tryz.isAgg282
 z50:=Tryz.sizeOf282
 v50:=Tryz.zeroValue282
 t53:=underlying285
 a53:=Tryz.isAgg285
 z53:=Tryz.sizeOf285
 v53:=Tryz.zeroValue285
 t55:=underlying287
 a55:=Tryz.isAgg287
 z55:=Tryz.sizeOf287
 v55:=Tryz.zeroValue287
 t66:=underlying304
 a66:=Tryz.isAgg304
 z66:=Tryz.sizeOf304
 v66:=Tryz.zeroValue304
 t70:=underlying308
 a70:=Tryz.isAgg308
 z70:=Tryz.sizeOf308
 v70:=Tryz.zeroValue308
 t76:=underlying319
 a76:=Tryz.isAgg319
 z76:=Tryz.sizeOf319
 v76:=Tryz.zeroValue319
 t77:=underlying89
 a77:=Tryz.isAgg89
 z77:=Tryz.sizeOf89
 v77:=Tryz.zeroValue89 }
end Go.Proofs
namespace Go.Flow
open Go.RowKit
def upd (v:Nat -> Value) (j:Nat) (u:Value):Nat -> Value:=fun k=>if k=j then u else v k
def mask (pre:Nat -> List Nat) (k:Nat) (v:Nat -> Value):Nat -> Value:=fun i=>if (i == k || (pre k).contains i)=true then v i else undef
def act (X:Nat -> Bool) (v:Nat -> Value):List Oper -> Nat -> Act -> Act
 | [],_,a=>a
 | o :: l,i,a=>act X v l (i + 1) (if X i then a.put o.dst (v i) else a)
theorem Q9a (a:Act) (d:Option Tmp) (u:Value):(a.put d u).tmps.size=a.tmps.size:=by cases d <;> simp [Act.put]
theorem put_defers (a:Act) (d:Option Tmp) (u:Value):(a.put d u).defers=a.defers:=by cases d <;> rfl
theorem X8r (X:Nat -> Bool) (v:Nat -> Value):∀ (l:List Oper) (i:Nat) (a:Act),(act X v l i a).tmps.size=a.tmps.size
 | [],_,_=>rfl
 | o :: l,i,a=>by rw [act,X8r X v l]; split <;> simp [Q9a]
theorem Q3g (X:Nat -> Bool) (v:Nat -> Value):∀ (l:List Oper) (i:Nat) (a:Act),(act X v l i a).defers=a.defers
 | [],_,_=>rfl
 | o :: l,i,a=>by rw [act,Q3g X v l]; split <;> simp [put_defers]
theorem X4r (a:Act) (d:Option Tmp) (u:Value) (t:Tmp) (h:d ≠ some t):(a.put d u).tmps[t]?=a.tmps[t]?:=by
 cases d with
 | none=>rfl
 | some d=>simp only [Act.put]; exact Array.getElem?_setIfInBounds_ne (fun e=>h (by rw [e]))
theorem X1n (a:Act) (u:Value) (t:Tmp) (h:t < a.tmps.size):(a.put (some t) u).tmps[t]?=some u:=by
 simp [Act.put,h]
theorem Q6y (X Y:Nat -> Bool) (v v':Nat -> Value) (t:Tmp):∀ (l:List Oper) (i:Nat) (a a':Act),a.tmps.size=a'.tmps.size -> a.tmps[t]?=a'.tmps[t]? ->
    (∀ k o,l[k]?=some o -> o.dst=some t -> X (i + k)=Y (i + k) /\ (X (i + k)=true -> v (i + k)=v' (i + k))) ->
    (act X v l i a).tmps[t]?=(act Y v' l i a').tmps[t]?
 | [],_,_,_,_,h,_=>h
 | o :: l,i,a,a',hs,h,hk=>by
   rw [act,act];refine Q6y X Y v v' t l (i + 1) _ _ (by split <;> split <;> simp [Q9a,hs]) ?_ (fun k o' ho hd=>by have:=hk (k + 1) o' (by simpa using ho) hd; rwa [show i + (k + 1)=i + 1 + k from by omega] at this)
   by_cases hd:o.dst=some t
   . obtain ⟨h1,h2⟩:=hk 0 o rfl hd
     simp only [Nat.add_zero] at h1 h2;rw [<- h1]
     split
     . rename_i hx
       rw [hd,h2 hx]
       rcases Nat.lt_or_ge t a.tmps.size with hl | hl
       . rw [X1n _ _ _ hl,X1n _ _ _ (hs ▸ hl)]
       . rw [Array.getElem?_eq_none (by rw [Q9a]; exact hl),Array.getElem?_eq_none (by rw [Q9a,<- hs]; exact hl)]
     . exact h
   . have e1:(if X i=true then a.put o.dst (v i) else a).tmps[t]?=a.tmps[t]?:=by split <;> first | exact X4r _ _ _ _ hd | rfl
     have e2:(if Y i=true then a'.put o.dst (v' i) else a').tmps[t]?=a'.tmps[t]?:=by split <;> first | exact X4r _ _ _ _ hd | rfl
     rw [e1,e2,h]
theorem Z4z (X:Nat -> Bool) (v:Nat -> Value) (t:Tmp):∀ (l:List Oper) (i:Nat) (a:Act) (j:Nat) (o:Oper),t < a.tmps.size -> l[j]?=some o -> o.dst=some t -> X (i + j)=true ->
    (∀ k o',j < k -> l[k]?=some o' -> o'.dst=some t -> X (i + k)=false) -> (act X v l i a).tmps[t]?=some (v (i + j))
 | [],_,_,_,_,_,h,_,_,_=>by simp at h
 | o :: l,i,a,0,o',hs,h,hd,hX,hk=>by
   simp only [List.getElem?_cons_zero,Option.some.injEq] at h;subst h;simp only [Nat.add_zero] at hX ⊢;rw [act,if_pos hX,Q6y X (fun _=>false) v v t l (i + 1) _ (a.put o.dst (v i)) rfl rfl (fun k o' ho NQ=>by
    have:=hk (k + 1) o' (by omega) (by simpa using ho) NQ
    rw [show i + (k + 1)=i + 1 + k from by omega] at this
    exact ⟨this,fun h=>by simp [this] at h⟩)]
   have:∀ (l:List Oper) (i:Nat) (a:Act),act (fun _=>false) v l i a=a:=by
    intro l; induction l with
    | nil=>intro i a; rfl
    | cons o l ih=>intro i a; simp [act,ih]
   rw [this,hd]; exact X1n _ _ _ hs
 | o :: l,i,a,j + 1,o',hs,h,hd,hX,hk=>by
   rw [act];have:=Z4z X v t l (i + 1) (if X i then a.put o.dst (v i) else a) j o' (by split <;> simp [Q9a,hs]) (by simpa using h) hd (by rwa [show i + 1 + j=i + (j + 1) from by omega])
    (fun k o'' Tq ho NQ=>by have:=hk (k + 1) o'' (by omega) (by simpa using ho) NQ; rwa [show i + (k + 1)=i + 1 + k from by omega] at this)
   rw [this]; congr 2; omega
theorem X3b {a b:Act} (hd:a.defers=b.defers) (h:∀ t:Nat,a.tmps[t]?=b.tmps[t]?):a=b:=by
 obtain ⟨ta,da⟩:=a; obtain ⟨tb,db⟩:=b;simp only at hd h;subst hd
 congr
 exact Array.ext_getElem? h
def okB (ops:Array Oper) (pre:Nat -> List Nat):Bool :=
 Region.noSelect ops &&
 (List.range ops.size).all fun j=>match ops[j]? with
  | none=>true
  | some oj =>
    (oj.after.toList.all fun e=>!Region.binds .any e || decide (e.on < j)) &&
    ((pre j).all fun i=>oj.after.toList.any fun e=>Region.binds .any e && (e.on == i || (pre e.on).contains i)) &&
    (List.range j).all fun i=>match ops[i]? with
     | none=>true
     | some oi=>oi.apart ops oj || (pre j).contains i
structure Ok (ops:Array Oper) (pr:Nat -> List Nat):Prop where
 sel:∀ (j:Nat) (o:Oper) (cs:Array SelectCase) (b:Bool),ops[j]?=some o -> o.op ≠ .select cs b
 edge:∀ j o,ops[j]?=some o -> ∀ e ∈ o.after,Region.binds .any e=true -> e.on < j
 pre:∀ j o,ops[j]?=some o -> ∀ i ∈ pr j,∃ e ∈ o.after,Region.binds .any e=true /\ (e.on=i ∨ i ∈ pr e.on)
 apart:∀ i j oi oj,i < j -> ops[i]?=some oi -> ops[j]?=some oj -> oi.apart ops oj=true ∨ i ∈ pr j
theorem J8p {ops:Array Oper} {pre:Nat -> List Nat} (h:okB ops pre=true):Ok ops pre:=by
 simp only [okB,Bool.and_eq_true,List.all_eq_true,List.mem_range] at h;obtain ⟨hs,h⟩:=h;have hj:∀ j o,ops[j]?=some o -> j < ops.size:=fun j o ho=>(Array.getElem?_eq_some_iff.1 ho).1;refine ⟨Region.noSelect_spec hs,fun j o ho e he hb=>?_,fun j o ho i hi=>?_,fun i j oi oj hij hoi hoj=>?_⟩
 . have:=h j (hj j o ho)
   simp only [ho,Bool.and_eq_true,List.all_eq_true] at this;have:=this.1.1 e (Array.mem_toList_iff.2 he)
   simpa [hb] using this
 . have:=h j (hj j o ho)
   simp only [ho,Bool.and_eq_true,List.all_eq_true] at this;have:=this.1.2 i hi;simp only [List.any_eq_true,Bool.and_eq_true,Bool.or_eq_true,beq_iff_eq,List.contains_iff_mem] at this;obtain ⟨e,he,hb,hc⟩:=this;exact ⟨e,Array.mem_toList_iff.1 he,hb,hc⟩
 . have:=h j (hj j oj hoj)
   simp only [hoj,Bool.and_eq_true,List.all_eq_true,List.mem_range] at this;have:=this.2 i hij;simp only [hoi,Bool.or_eq_true,List.contains_iff_mem] at this;exact this
section
variable {P:Program} {ops:Array Oper} {pre:Nat -> List Nat}
theorem eval_congr {a b:Act} (o:Oper) (h:∀ t ∈ o.looksAt ops,a.tmps[t]?=b.tmps[t]?):∀ x ∈ o.op.operands,a.eval x=b.eval x:=fun x hx=>by
 cases x with
 | tmp t =>
   have:=h t (List.mem_append_left _ (List.mem_filterMap.2 ⟨.tmp t,by simpa using hx,rfl⟩))
   simp [Act.eval,this]
 | _=>rfl
theorem X0i {a b:Act} (o:Oper) (h:∀ t ∈ o.looksAt ops,a.tmps[t]?=b.tmps[t]?):Region.wanted o (yielded ops a.tmps)=Region.wanted o (yielded ops b.tmps):=by
 unfold Region.wanted;cases hg:o.guard with
 | none=>rfl
 | some gw =>
   obtain ⟨g,want⟩:=gw;have hy:yielded ops a.tmps g=yielded ops b.tmps g:=by
    unfold yielded;cases ht:(ops[g]?).bind (·.dst) with
    | none=>rfl
    | some t =>
      have:=h t (by simp [Oper.looksAt,hg,ht])
      simp [this]
   simp only [hy]
def gives (P:Program) (G:Value -> World -> Prop):Result Next -> Prop
 | .ok (.value v) w'=>G v w'
 | .ok .skip w'=>G undef w'
 | .ok (.enter f args) w'=>Calls P f args w' fun e w''=>∃ u,e=.returned u /\ G u w''
 | .ok (.row row args) w'=>Rows P row args w' fun v w''=>G v w''
 | _=>False
theorem Q5r {G G':Value -> World -> Prop} (h:∀ v w,G v w -> G' v w) {r:Result Next} (hr:gives P G r):gives P G' r:=by
 cases r with
 | ok n w =>
   cases n <;> simp only [gives] at hr ⊢
   case value=>exact h _ _ hr
   case skip=>exact h _ _ hr
   case enter=>exact hr.mono fun e w ⟨u,he,hu⟩=>⟨u,he,h _ _ hu⟩
   case row=>exact hr.mono fun v w hu=>h _ _ hu
 | halt x w=>exact hr
theorem Q2x {o:Oper} {a:Act} {K:Act -> World -> Prop} {Q:Exit -> Act -> World -> Prop} {r:Result Next} (h:gives P (fun v w=>K (a.put o.dst v) w) r):o.upon P a K Q r:=by
 cases r with
 | ok n w =>
   cases n <;> simp only [gives,Oper.upon] at h ⊢
   case value=>exact h
   case skip=>exact h
   case enter=>exact h.mono fun e w ⟨u,he,hu⟩=>by subst he; exact hu
   case row=>exact h
 | halt x w=>exact h.elim
inductive Kind where
 | plain
 | world
 | last
abbrev Kind.p:=Kind.plain
abbrev Kind.w:=Kind.world
def vc (P:Program) (ops:Array Oper) (pre:Nat -> List Nat) (Rel:World -> World -> Prop) (D:Nat -> (Nat -> Value) -> World -> Prop) (T E:(Nat -> Value) -> World -> World -> Prop) (k:Kind) (o:Oper) (j:Nat) (b:Act) (v:Nat -> Value) (w1:World):Prop :=
 match k with
 | .plain=>(Region.wanted o (yielded ops b.tmps)=true /\ ∃ u,(∀ w,(execOp b.eval o).run P w=.ok (.value u) w) /\ D j (mask pre j (upd v j u)) w1) ∨ (Region.wanted o (yielded ops b.tmps)=false /\ D j (mask pre j (upd v j undef)) w1)
 | .world=>(Region.wanted o (yielded ops b.tmps)=true /\ gives P (fun u w'=>Rel w1 w' /\ D j (mask pre j (upd v j u)) w') ((execOp b.eval o).run P w1)) ∨ (Region.wanted o (yielded ops b.tmps)=false /\ D j (mask pre j (upd v j undef)) w1)
 | .last=>∀ w,T v w1 w -> (Region.wanted o (yielded ops b.tmps)=true /\ gives P (fun u w'=>E (mask pre j (upd v j u)) w1 w') ((execOp b.eval o).run P w)) ∨ (Region.wanted o (yielded ops b.tmps)=false /\ E (mask pre j (upd v j undef)) w1 w)
def Tail (pre:Nat -> List Nat) (tail:List Nat) (E:Nat -> (Nat -> Value) -> World -> World -> Prop):Nat -> (Nat -> Value) -> World -> World -> Prop
 | 0,_,w1,w=>w=w1
 | c + 1,v,w1,w=>E c (mask pre (tail.getD c 0) v) w1 w
def Made (P:Program) (o:Oper):Prop:=o.guard=none /\ ∀ (e:Operand -> Value) (w:World),∃ c,(execOp e o).run P w=.ok (.value (.pointer (some ⟨w.heap.size,0,none⟩))) (w.alloc c)
def K1s (news:List Nat) (v:Nat -> Value):Prop:=∀ i ∈ news,∀ k ∈ news,i ≠ k -> v i ≠ v k
structure Inv (ops:Array Oper) (pre:Nat -> List Nat) (Rel:World -> World -> Prop) (D:Nat -> (Nat -> Value) -> World -> Prop) (E:Nat -> (Nat -> Value) -> World -> World -> Prop) (tail:List Nat) (news:List Nat) (a0:Act) (w0:World) (X:Nat -> Bool) (v:Nat -> Value) (w1:World) (c:Nat) (a:Act) (w:World):Prop where
 act:a=act X v ops.toList 0 a0
 rel:Rel w0 w1
 facts:∀ k,X k=true -> k ∉ tail -> D k (mask pre k v) w1
 count:c <= tail.length
 before:∀ i (h:i < tail.length),i < c -> X tail[i]=true
 after:∀ i (h:i < tail.length),c <= i -> X tail[i]=false
 last:Tail pre tail E c v w1 w
 newIn:∀ i ∈ news,X i=true -> ∃ g,v i=.pointer (some ⟨g,0,none⟩) /\ g < w1.heap.size
 newNe:∀ i ∈ news,∀ k ∈ news,i ≠ k -> X i=true -> X k=true -> v i ≠ v k
theorem X1c {j k:Nat} {v:Nat -> Value} {u:Value} (h1:j ≠ k) (h2:j ∉ pre k):mask pre k (upd v j u)=mask pre k v:=by
 funext i
 unfold mask upd
 split
 . rename_i h
   rw [if_neg];rintro rfl;simp only [Bool.or_eq_true,beq_iff_eq,List.contains_iff_mem] at h
   rcases h with h | h
   . exact h1 h
   . exact h2 h
 . rfl
theorem Y6v {l:List Oper} {X:Nat -> Bool} {v:Nat -> Value} {a0:Act} {j:Nat} {o:Oper} {u:Value} (ho:l[j]?=some o) (hX:X j=false)
    (Dx:∀ k o',j < k -> l[k]?=some o' -> X k=true -> o'.dst ≠ o.dst ∨ o.dst=none) :
    (act X v l 0 a0).put o.dst u=act (fun k=>if k=j then true else X k) (upd v j u) l 0 a0:=by
 refine X3b (by rw [put_defers,Q3g,Q3g]) fun t=>?_
 by_cases hd:o.dst=some t
 . rcases Nat.lt_or_ge t a0.tmps.size with hl | hl
   . rw [hd,X1n _ _ _ (by rw [X8r]; exact hl),Z4z _ _ t l 0 a0 j o hl ho hd (by simp) (fun k o' hk Px NQ=>by
      rw [if_neg (by omega)]
      cases hx:X (0 + k) with
      | false=>rfl
      | true =>
        rw [Nat.zero_add] at hx
        rcases Dx k o' hk Px hx with h | h
        . exact absurd (NQ.trans hd.symm) h
        . rw [h] at hd; cases hd)]
     simp [upd]
   . rw [Array.getElem?_eq_none (by rw [Q9a,X8r]; exact hl),Array.getElem?_eq_none (by rw [X8r]; exact hl)]
 . rw [X4r _ _ _ _ hd]
   refine Q6y _ _ _ _ t l 0 a0 a0 rfl rfl fun k o' Px NQ=>?_;have Kz:¬ (0 + k=j):=by
    rw [Nat.zero_add]; rintro rfl;rw [ho] at Px; cases Px; exact hd NQ
   rw [if_neg Kz];exact ⟨rfl,fun _=>by simp only [upd]; rw [if_neg Kz]⟩
theorem Q3w {a:Array Bool} {j:Nat} (h:j < a.size):a.getD j true=a.getD j false:=by simp [h]
theorem Q3r (n k:Nat):(Array.replicate n false).getD k false=false:=by
 simp only [Array.getD_eq_getD_getElem?,Array.getElem?_replicate]
 split <;> rfl
def left (n:Nat) (listed:Array Bool):Nat:=(List.range n).countP fun i=>!listed.getD i true
theorem X1q {n i:Nat} {listed:Array Bool} (_hn:listed.size=n) (hi:i < n) (h:listed.getD i true=false):left n (listed.setIfInBounds i true) < left n listed:=by
 unfold left;have h2:∀ m,m <= n -> (List.range m).countP (fun k=>!(listed.setIfInBounds i true).getD k true) + (if i < m then 1 else 0)=(List.range m).countP (fun k=>!listed.getD k true):=by
  intro m
  induction m with
  | zero=>intro _; simp
  | succ m ih =>
    intro hm;rw [List.range_succ,List.countP_append,List.countP_append,<- ih (by omega)]
    by_cases a6:m=i
    . subst a6
      have h':listed[m]?.getD true=false:=by simpa using h
      simp [h']
    . rw [List.countP_singleton,List.countP_singleton,getD_set_ne true (fun e=>a6 e.symm)]
      split <;> split <;> split <;> omega
 have:=h2 n (Nat.le_refl _);rw [if_pos hi] at this;omega
theorem Y2w (news:List Nat) (tail:List Nat) (kind:Nat -> Kind) {Rel:World -> World -> Prop} {D:Nat -> (Nat -> Value) -> World -> Prop} {E:Nat -> (Nat -> Value) -> World -> World -> Prop}
    {id:Nat} {Q:Exit -> Act -> World -> Prop} {a0:Act} {w:World} (hm:P.follows .mixedOrders=true) (Ej:Ok ops pre)
    (Bj:∀ i (h:i < tail.length),tail[i] < ops.size) (uj:∀ i k (hi:i < tail.length) (hk:k < tail.length),i < k -> tail[i] ∈ pre tail[k])
    (Dx:∀ j,j < ops.size -> j ∉ tail -> ∀ k ∈ pre j,k ∉ tail) (Nk:∀ j,j < ops.size -> (kind j=.last ↔ j ∈ tail)) (dj:∀ j,j < ops.size -> kind j=.world -> ∀ s ∈ tail,j ∈ pre s)
    (Tj:∀ w,Rel w w) (vz:∀ a b c,Rel a b -> Rel b c -> Rel a c) (Ny:∀ k,k < ops.size -> ∀ v w w',Rel w w' -> D k v w -> D k v w')
    (Jz:∀ j o,ops[j]?=some o -> j ∉ tail -> ∀ v w1,Rel w.drew w1 -> (∀ k ∈ pre j,D k (mask pre k v) w1) -> vc P ops pre Rel D (fun _ _ _=>False) (fun _ _ _=>False) (kind j) o j (act (fun k=>decide (k < j)) v ops.toList 0 a0) v w1)
    (Zy:∀ c (hc:c < tail.length) o,ops[tail[c]]?=some o -> ∀ v w1,Rel w.drew w1 -> (∀ k ∈ pre tail[c],k ∉ tail -> D k (mask pre k v) w1) -> vc P ops pre Rel D (Tail pre tail E c) (E c) .last o tail[c] (act (fun k=>decide (k < tail[c])) v ops.toList 0 a0) v w1)
    (Jj:∀ j ∈ news,j < ops.size /\ kind j=.world /\ ∀ o,ops[j]?=some o -> Made P o) (K4:∀ a b,Rel a b -> a.heap.size <= b.heap.size)
    (Xj:∀ v w1 w',Rel w.drew w1 -> K1s news v -> (∀ k,k < ops.size -> k ∉ tail -> D k (mask pre k v) w1) -> Tail pre tail E tail.length v w1 w' -> Q .normal (act (fun _=>true) v ops.toList 0 a0) w') :
    (Code.region id ops true).wp P Q a0 w:=by
 refine wp_region_any hm ?_;have Nx:∀ (X:Nat -> Bool),(∀ j o,ops[j]?=some o -> X j=true -> ∀ e ∈ o.after,Region.binds .any e=true -> X e.on=true) ->
     ∀ j o,ops[j]?=some o -> (∀ e ∈ o.after,Region.binds .any e=true -> X e.on=true) -> ∀ i ∈ pre j,X i=true:=by
  intro X hX j
  induction j using Nat.strongRecOn with
  | _ j ih =>
    intro o ho oq i hi;obtain ⟨e,he,hb,hc⟩:=Ej.pre j o ho i hi
    rcases hc with rfl | hc
    . exact oq e he hb
    . have Tq:=Ej.edge j o ho e he hb
      have hj:j < ops.size:=(Array.getElem?_eq_some_iff.1 ho).1;have Px:ops[e.on]?=some ops[e.on]:=Array.getElem?_eq_getElem (by omega)
      exact ih e.on Tq _ Px (hX e.on _ Px (oq e he hb)) i hc
 have main:∀ (fuel:Nat) (listed:Array Bool) (a:Act) (wc:World),listed.size=ops.size -> left ops.size listed <= fuel ->
     (∀ j o,ops[j]?=some o -> listed.getD j false=true -> ∀ e ∈ o.after,Region.binds .any e=true -> listed.getD e.on false=true) ->
     (∃ v w1 c,Inv ops pre Rel D E tail news a0 w.drew (fun k=>listed.getD k false) v w1 c a wc) -> wpAny P .any ops Q fuel listed a wc:=by
  intro fuel;have Cz:∀ (listed:Array Bool) (a:Act) (wc:World),listed.size=ops.size ->
      (∃ v w1 c,Inv ops pre Rel D E tail news a0 w.drew (fun k=>listed.getD k false) v w1 c a wc) -> Region.ready .any ops listed=[] -> Q .normal a wc:=by
   rintro listed a wc pq ⟨v,w1,c,hI⟩ hr;have oq:∀ j,j < ops.size -> listed.getD j false=true:=by
    intro j
    induction j using Nat.strongRecOn with
    | _ j ih =>
      intro hj;cases hx:listed.getD j false with
      | true=>rfl
      | false =>
        have tq:j ∈ Region.ready .any ops listed:=mem_ready.2 ⟨by rw [Q3w (by omega)]; exact hx,ops[j],Array.getElem?_eq_getElem hj,fun e he hb =>
         have Tq:=Ej.edge j _ (Array.getElem?_eq_getElem hj) e he hb
         ih e.on Tq (by omega)⟩
        rw [hr] at tq;cases tq
   have J4:a=act (fun _=>true) v ops.toList 0 a0:=by
    rw [hI.act];refine X3b (by rw [Q3g,Q3g]) fun t=>Q6y _ _ _ _ t _ 0 _ _ rfl rfl fun k o ho _=>⟨?_,fun _=>rfl⟩
    rw [Nat.zero_add];exact oq k (by simpa using (List.getElem?_eq_some_iff.1 ho).1)
   rw [J4];refine Xj v w1 wc hI.rel (fun i hi k hk hne=>hI.newNe i hi k hk hne (oq i (Jj i hi).1) (oq k (Jj k hk).1)) (fun k hk Cx=>hI.facts k (oq k hk) Cx) ?_;have hl:=hI.last;have hc:c=tail.length:=by
    rcases Nat.lt_or_ge c tail.length with h | h
    . have h1:listed.getD tail[c] false=false:=hI.after c h (Nat.le_refl _)
      have h2:=oq _ (Bj c h);rw [h2] at h1; cases h1
    . have:=hI.count; omega
   rw [hc] at hl;exact hl
  induction fuel with
  | zero =>
    intro listed a wc pq My _ hI;have hr:Region.ready .any ops listed=[]:=by
     refine List.eq_nil_iff_forall_not_mem.2 fun j hj=>?_;obtain ⟨Fz,o,ho,_⟩:=mem_ready.1 hj;have Tq:j < ops.size:=(Array.getElem?_eq_some_iff.1 ho).1;have:=X1q pq Tq Fz;omega
    exact ⟨hr,Cz listed a wc pq hI hr⟩
  | succ fuel ih =>
    intro listed a wc pq My hcl hI;refine ⟨Cz listed a wc pq hI,fun j hj=>?_⟩;obtain ⟨v,w1,c,hI⟩:=hI;obtain ⟨Fz,o,ho,oq⟩:=mem_ready.1 hj;have Tq:j < ops.size:=(Array.getElem?_eq_some_iff.1 ho).1;have Zz:listed.getD j false=false:=by rw [<- Q3w (by omega)]; exact Fz
    have Tz:=Nx (fun k=>listed.getD k false) hcl j o ho oq;have N3:ops.toList[j]?=some o:=by simpa using ho
    have Ux:∀ k,k < ops.size -> listed.getD k false=true -> j ∉ pre k:=by
     intro k hk hx tq;have Px:ops[k]?=some ops[k]:=Array.getElem?_eq_getElem hk;have h2:listed.getD j false=true:=Nx (fun k=>listed.getD k false) hcl k _ Px (hcl k _ Px hx) j tq;rw [Zz] at h2; cases h2
    have Sz:∀ k o',j < k -> ops[k]?=some o' -> listed.getD k false=true -> o.apart ops o'=true:=by
     intro k o' hk Px hx
     rcases Ej.apart j k o o' hk ho Px with h | h
     . exact h
     . exact absurd h (Ux k (Array.getElem?_eq_some_iff.1 Px).1 hx)
    have Rz:∀ t ∈ o.looksAt ops,a.tmps[t]?=(act (fun k=>decide (k < j)) v ops.toList 0 a0).tmps[t]?:=by
     intro t ht;rw [hI.act];refine Q6y _ _ _ _ t _ 0 _ _ rfl rfl fun k o' Px hd=>?_;rw [Nat.zero_add];refine ⟨?_,fun _=>rfl⟩;have Ly:ops[k]?=some o':=by simpa using Px
     rcases Nat.lt_trichotomy k j with hk | hk | hk
     . simp only [hk,decide_true]
       rcases Ej.apart k j o' o hk Ly ho with h | h
       . exact absurd ht ((Oper.apart_spec h).1 t hd)
       . exact Tz k h
     . subst hk
       simp [Zz]
     . have G4:¬ k < j:=by omega
       simp only [G4,decide_false];cases hx:listed.getD k false with
       | false=>rfl
       | true=>exact absurd ht ((Oper.apart_spec (Sz k o' hk Ly hx)).2.2 t hd)
    have Ax:execOp a.eval o=execOp (act (fun k=>decide (k < j)) v ops.toList 0 a0).eval o:=execOp_congr o (fun cs b=>Ej.sel j o cs b ho) (eval_congr o Rz);have Ky:Region.wanted o (yielded ops a.tmps)=Region.wanted o (yielded ops (act (fun k=>decide (k < j)) v ops.toList 0 a0).tmps):=X0i o Rz;have Ez:∀ u,a.put o.dst u=act (fun k=>if k=j then true else listed.getD k false) (upd v j u) ops.toList 0 a0:=by
     intro u;rw [hI.act];refine Y6v N3 Zz fun k o' hk Px hx=>?_;cases hd:o.dst with
     | none=>exact .inr rfl
     | some d=>exact .inl ((Oper.apart_spec (Sz k o' hk (by simpa using Px) hx)).2.1 d hd)
    have hX:(fun k=>(listed.setIfInBounds j true).getD k false)=fun k=>if k=j then true else listed.getD k false:=by
     funext k
     split
     . rename_i hk; subst hk; simp [pq,Tq]
     . rename_i hk; exact getD_set_ne false (Ne.symm hk)
    have tj:j ∈ tail -> ∃ h:c < tail.length,tail[c]=j:=by
     intro tq;obtain ⟨i,hi,he⟩:=List.getElem_of_mem tq;have Te:c <= i:=by
      rcases Nat.lt_or_ge i c with h | h
      . have:=hI.before i hi h
        simp only [he] at this;rw [Zz] at this; cases this
      . exact h
     have:c=i:=by
      rcases Nat.lt_or_ge c i with h | h
      . have hx:=Tz tail[c] (by rw [<- he]; exact uj c i (by omega) hi h)
        have h1:=hI.after c (by omega) (Nat.le_refl _)
        rw [hx] at h1; cases h1
      . omega
     subst this;exact ⟨hi,he⟩
    have Wj:∀ (u:Value) (w1' wc':World) (c':Nat),Rel w1 w1' -> (j ∉ tail -> D j (mask pre j (upd v j u)) w1') -> (j ∉ tail -> c'=c) -> (j ∈ tail -> c'=c + 1) -> (j ∈ news -> ∃ g,u=.pointer (some ⟨g,0,none⟩) /\ w1.heap.size <= g /\ g < w1'.heap.size) ->
        Tail pre tail E c' (upd v j u) w1' wc' -> wpAny P .any ops Q fuel (listed.setIfInBounds j true) (a.put o.dst u) wc':=by
     intro u w1' wc' c' hrel hD Rx Xx hN hE;refine ih _ _ _ (by simpa using pq) (by have:=X1q pq Tq Fz; omega) (fun k ok Rv hx e he hb=>?_) ⟨upd v j u,w1',c',⟨by rw [hX]; exact Ez u,vz _ _ _ hI.rel hrel,fun k hx Cx=>?_,?_,fun i hi hic=>?_,fun i hi hic=>?_,hE,fun i hi hx=>?_,fun i hi k hk hne hx hy=>?_⟩⟩
     . by_cases Kz:k=j
       . subst Kz
         rw [ho] at Rv;cases Rv;exact getD_set_true (oq e he hb)
       . rw [getD_set_ne false (Ne.symm Kz)] at hx
         exact getD_set_true (hcl k ok Rv hx e he hb)
     . rw [congrFun hX k] at hx
       by_cases Kz:k=j
       . subst Kz; exact hD Cx
       . rw [if_neg Kz] at hx
         have Jy:k < ops.size:=by
          rcases Nat.lt_or_ge k ops.size with h | h
          . exact h
          . rw [<- pq] at h; simp [Array.getElem?_eq_none h] at hx
         rw [X1c (Ne.symm Kz) (Ux k Jy hx)];exact Ny k Jy _ _ _ hrel (hI.facts k hx Cx)
     . by_cases kq:j ∈ tail
       . obtain ⟨h,_⟩:=tj kq
         rw [Xx kq]; omega
       . rw [Rx kq]; exact hI.count
     . rw [congrFun hX]
       by_cases hij:tail[i]=j
       . rw [if_pos hij]
       . rw [if_neg hij]
         by_cases kq:j ∈ tail
         . obtain ⟨h,he⟩:=tj kq
           rw [Xx kq] at hic;have:i ≠ c:=fun e=>hij (by subst e; exact he)
           exact hI.before i hi (by omega)
         . rw [Rx kq] at hic; exact hI.before i hi hic
     . rw [congrFun hX]
       by_cases kq:j ∈ tail
       . obtain ⟨h,he⟩:=tj kq
         rw [Xx kq] at hic;rw [if_neg (fun e=>by
          have h1:=uj c i h hi (by omega)
          rw [e,he] at h1;obtain ⟨e',RZ,Mk,Wg⟩:=Ej.pre j o ho j h1;have hl:=Ej.edge j o ho e' RZ Mk;have h2:listed.getD j false=true:=Tz j h1;rw [Zz] at h2; cases h2)]
         exact hI.after i hi (by omega)
       . rw [Rx kq] at hic
         rw [if_neg (fun e=>kq (by rw [<- e]; exact List.getElem_mem hi))]
         exact hI.after i hi hic
     . rw [congrFun hX i] at hx
       by_cases hij:i=j
       . subst hij
         obtain ⟨g,hg,_,h2⟩:=hN hi;exact ⟨g,by simp [upd,hg],h2⟩
       . rw [if_neg hij] at hx
         obtain ⟨g,hg,h2⟩:=hI.newIn i hi hx;exact ⟨g,by simp [upd,hij,hg],Nat.lt_of_lt_of_le h2 (K4 _ _ hrel)⟩
     . rw [congrFun hX i] at hx
       rw [congrFun hX k] at hy
       by_cases hij:i=j
       . subst hij
         rw [if_neg (Ne.symm hne)] at hy;obtain ⟨g,hg,h1,_⟩:=hN hi;obtain ⟨g',Lk,h2⟩:=hI.newIn k hk hy;have e1:upd v i u i=u:=by simp [upd]
         have e2:upd v i u k=v k:=by simp [upd,Ne.symm hne]
         rw [e1,e2,hg,Lk];intro he;injection he with he;injection he with he;injection he with he;omega
       . rw [if_neg hij] at hx
         by_cases Kz:k=j
         . subst Kz
           obtain ⟨g,hg,h1,_⟩:=hN hk;obtain ⟨g',Lk,h2⟩:=hI.newIn i hi hx;have e1:upd v k u k=u:=by simp [upd]
           have e2:upd v k u i=v i:=by simp [upd,hij]
           rw [e1,e2,hg,Lk];intro he;injection he with he;injection he with he;injection he with he;omega
         . rw [if_neg Kz] at hy
           have e1:upd v j u i=v i:=by simp [upd,hij]
           have e2:upd v j u k=v k:=by simp [upd,Kz]
           rw [e1,e2];exact hI.newNe i hi k hk hne hx hy
    have Sj:j ∉ tail -> ∀ u,Tail pre tail E c (upd v j u) w1 wc:=by
     intro kq u;have hl:=hI.last;cases c with
     | zero=>exact hl
     | succ c =>
       have my:c < tail.length:=by have:=hI.count; omega
       change E c (mask pre (tail.getD c 0) v) w1 wc at hl;show E c (mask pre (tail.getD c 0) (upd v j u)) w1 wc;have e:tail.getD c 0=tail[c]:=by simp [my]
       rw [e] at hl ⊢;rw [X1c (fun h=>kq (by rw [h]; exact List.getElem_mem my)) (Ux _ (Bj c my) (hI.before c my (by omega)))]
       exact hl
    have Kk:kind j ≠ .world -> j ∉ news:=fun h1 h2=>h1 (Jj j h2).2.1;have lz:Region.wanted o (yielded ops (act (fun k=>decide (k < j)) v ops.toList 0 a0).tmps)=false -> j ∉ news:=fun h1 h2=>by
     have h3:=((Jj j h2).2.2 o ho).1;simp [Region.wanted,h3] at h1
    unfold wpOp;simp only [ho];rw [Ky]
    by_cases kq:j ∈ tail
    . obtain ⟨hc,he⟩:=tj kq
      have hv:=Zy c hc o (by rw [he]; exact ho) v w1 hI.rel (fun k hk MQ=>hI.facts k (Tz k (by rw [<- he]; exact hk)) MQ) wc hI.last
      rw [he] at hv;have hT:∀ u w',E c (mask pre j (upd v j u)) w1 w' -> Tail pre tail E (c + 1) (upd v j u) w1 w':=by
       intro u w' h;show E c (mask pre (tail.getD c 0) (upd v j u)) w1 w';have e:tail.getD c 0=j:=by simp [hc,he]
       rw [e]; exact h
      rcases hv with ⟨Vj,hg⟩ | ⟨Bz,hD⟩
      . rw [if_pos Vj]
        refine .inl ?_;unfold Oper.wp;rw [Ax];exact Q2x (Q5r (fun u w' h=>Wj u w1 w' (c + 1) (Tj _) (fun h=>absurd kq h) (fun h=>absurd kq h) (fun _=>rfl) (fun hn=>absurd hn (Kk (by rw [(Nk j Tq).2 kq]; simp))) (hT u w' h)) hg)
      . rw [if_neg (by rw [Bz]; simp)]
        exact Wj undef w1 wc (c + 1) (Tj _) (fun h=>absurd kq h) (fun h=>absurd kq h) (fun _=>rfl) (fun hn=>absurd hn (lz Bz)) (hT _ _ hD)
    . have Tk:∀ k ∈ pre j,D k (mask pre k v) w1:=fun k hk=>hI.facts k (Tz k hk) (Dx j Tq kq k hk)
      have hv:=Jz j o ho kq v w1 hI.rel Tk;cases hk:kind j with
      | plain =>
        rw [hk] at hv
        rcases hv with ⟨Vj,u,vx,hD⟩ | ⟨Bz,hD⟩
        . rw [if_pos Vj]
          refine .inl ?_;unfold Oper.wp;rw [Ax,vx wc];exact Wj u w1 wc c (Tj _) (fun _=>hD) (fun _=>rfl) (fun h=>absurd h kq) (fun hn=>absurd hn (Kk (by rw [hk]; simp))) (Sj kq u)
        . rw [if_neg (by rw [Bz]; simp)]
          exact Wj undef w1 wc c (Tj _) (fun _=>hD) (fun _=>rfl) (fun h=>absurd h kq) (fun hn=>absurd hn (lz Bz)) (Sj kq undef)
      | world =>
        have Az:c=0:=by
         rcases Nat.eq_zero_or_pos c with h | h
         . exact h
         . have h0:0 < tail.length:=by have:=hI.count; omega
           have hx:=hI.before 0 h0 h;exact absurd (dj j Tq hk tail[0] (List.getElem_mem h0)) (Ux _ (Bj 0 h0) hx)
        subst Az;have S1:wc=w1:=hI.last;subst S1;rw [hk] at hv
        rcases hv with ⟨Vj,hg⟩ | ⟨Bz,hD⟩
        . rw [if_pos Vj]
          refine .inl ?_;unfold Oper.wp;rw [Ax]
          by_cases hn:j ∈ news
          . obtain ⟨cc,vx⟩:=((Jj j hn).2.2 o ho).2 (act (fun k=>decide (k < j)) v ops.toList 0 a0).eval wc
            rw [vx] at hg ⊢;exact Q2x (Wj _ _ _ 0 hg.1 (fun _=>hg.2) (fun _=>rfl) (fun h=>absurd h kq) (fun _=>⟨_,rfl,Nat.le_refl _,by rw [World.size_alloc]; exact Nat.lt_succ_self _⟩) rfl)
          . exact Q2x (Q5r (fun u w' h=>Wj u w' w' 0 h.1 (fun _=>h.2) (fun _=>rfl) (fun h=>absurd h kq) (fun h=>absurd h hn) rfl) hg)
        . rw [if_neg (by rw [Bz]; simp)]
          exact Wj undef wc wc 0 (Tj _) (fun _=>hD) (fun _=>rfl) (fun h=>absurd h kq) (fun hn=>absurd hn (lz Bz)) rfl
      | last=>exact absurd ((Nk j Tq).1 hk) kq
 refine main ops.size _ a0 _ (by simp) ?_ (fun j o _ hx=>?_) ⟨fun _=>undef,w.drew,0,?_,Tj _,fun k hx=>?_,Nat.zero_le _,fun i _ h=>absurd h (Nat.not_lt_zero _),fun i _ _=>?_,rfl,fun i _ hx=>?_,fun i _ _ _ _ hx=>?_⟩
 . exact Nat.le_trans (List.countP_le_length) (by simp)
 . have:=Q3r ops.size j
   rw [this] at hx; cases hx
 . refine (X3b (by rw [Q3g]) fun t=>?_)
   have:∀ (l:List Oper) (i:Nat) (a:Act),act (fun k=>(Array.replicate ops.size false).getD k false) (fun _=>undef) l i a=a:=by
    intro l; induction l with
    | nil=>intro i a; rfl
    | cons o l ih=>intro i a; rw [act,ih,Q3r]; rfl
   rw [this]
 . have:=Q3r ops.size k
   rw [this] at hx; cases hx
 . exact Q3r ops.size _
 . have:=Q3r ops.size i
   rw [this] at hx; cases hx
 . have:=Q3r ops.size i
   rw [this] at hx; cases hx
end
end Go.Flow
namespace Go.Flow
open Go.RowKit Go.Tw
structure Spec where
 D:(Nat -> Value) -> World -> Prop
 mono:∀ v w w',Ext w w' -> D v w -> D v w'
def Spec.is (j:Nat) (e:(Nat -> Value) -> Value):Spec:=⟨fun v _=>v j=e v,fun _ _ _ _ h=>h⟩
def Spec.c (j:Nat) (x:Value):Spec:=Spec.is j fun _=>x
def Spec.none:Spec:=⟨fun _ _=>True,fun _ _ _ _ _=>trivial⟩
def lookup {α:Type}:List α -> α -> Nat -> α
 | [],d,_=>d
 | x :: _,_,0=>x
 | _ :: l,d,n + 1=>lookup l d n
def Facts (pre:Nat -> List Nat) (D:Nat -> (Nat -> Value) -> World -> Prop) (v:Nat -> Value) (w:World):List Nat -> Prop -> Prop
 | [],G=>G
 | k :: l,G=>D k (mask pre k v) w -> Facts pre D v w l G
theorem Facts.out {pre:Nat -> List Nat} {D:Nat -> (Nat -> Value) -> World -> Prop} {v:Nat -> Value} {w:World} {G:Prop}:∀ {l:List Nat},Facts pre D v w l G -> (∀ k ∈ l,D k (mask pre k v) w) -> G
 | [],h,_=>h
 | k :: l,h,hf=>Facts.out (h (hf k (by simp))) (fun i hi=>hf i (by simp [hi]))
def Due (P:Program) (pre:Nat -> List Nat) (D:Nat -> (Nat -> Value) -> World -> Prop) (E:(Nat -> Value) -> World -> World -> Prop) (k:Kind) (o:Oper) (j:Nat) (b:Act) (v:Nat -> Value) (w1 w:World):Prop :=
 match k with
 | .plain=>∃ u,(∀ w,(execOp b.eval o).run P w=.ok (.value u) w) /\ D j (mask pre j (upd v j u)) w1
 | .world=>∀ K:Value -> World -> Prop,(∀ u w',Ext w1 w' -> D j (mask pre j (upd v j u)) w' -> K u w') -> gives P K ((execOp b.eval o).run P w1)
 | .last=>∀ K:Value -> World -> Prop,(∀ u w',E (mask pre j (upd v j u)) w1 w' -> K u w') -> gives P K ((execOp b.eval o).run P w)
def Pass (pre:Nat -> List Nat) (D:Nat -> (Nat -> Value) -> World -> Prop) (E:(Nat -> Value) -> World -> World -> Prop) (k:Kind) (j:Nat) (v:Nat -> Value) (w1 w:World):Prop :=
 match k with
 | .last=>E (mask pre j (upd v j undef)) w1 w
 | _=>D j (mask pre j (upd v j undef)) w1
def Guarded (ops:Array Oper) (o:Oper) (b:Act) (T F:Prop):Prop :=
 match o.guard with
 | none=>T
 | some _=>(Region.wanted o (yielded ops b.tmps)=true /\ T) ∨ (Region.wanted o (yielded ops b.tmps)=false /\ F)
theorem K0l {P:Program} {ops:Array Oper} {pre:Nat -> List Nat} {D:Nat -> (Nat -> Value) -> World -> Prop} {T E:(Nat -> Value) -> World -> World -> Prop} {k:Kind} {o:Oper} {j:Nat} {b:Act} {v:Nat -> Value} {w1:World}
    (hk:k ≠ .last) (h:Guarded ops o b (Due P pre D E k o j b v w1 w1) (Pass pre D E k j v w1 w1)):vc P ops pre Ext D T E k o j b v w1:=by
 have h':(Region.wanted o (yielded ops b.tmps)=true /\ Due P pre D E k o j b v w1 w1) ∨ (Region.wanted o (yielded ops b.tmps)=false /\ Pass pre D E k j v w1 w1):=by
  unfold Guarded at h;cases hg:o.guard with
  | none=>rw [hg] at h; exact .inl ⟨by simp [Region.wanted,hg],h⟩
  | some g=>rw [hg] at h; exact h
 cases k with
 | plain=>exact h'.imp (fun ⟨a,u,b,c⟩=>⟨a,u,b,c⟩) id
 | world=>exact h'.imp (fun ⟨a,b⟩=>⟨a,b _ fun u w' h1 h2=>⟨h1,h2⟩⟩) id
 | last=>exact absurd rfl hk
theorem J7k {P:Program} {ops:Array Oper} {pre:Nat -> List Nat} {D:Nat -> (Nat -> Value) -> World -> Prop} {T E:(Nat -> Value) -> World -> World -> Prop} {o:Oper} {j:Nat} {b:Act} {v:Nat -> Value} {w1:World}
    (h:∀ w,T v w1 w -> Guarded ops o b (Due P pre D E .last o j b v w1 w) (Pass pre D E .last j v w1 w)):vc P ops pre Ext D T E .last o j b v w1:=by
 intro w hT;have h:=h w hT;have h':(Region.wanted o (yielded ops b.tmps)=true /\ Due P pre D E .last o j b v w1 w) ∨ (Region.wanted o (yielded ops b.tmps)=false /\ Pass pre D E .last j v w1 w):=by
  unfold Guarded at h;cases hg:o.guard with
  | none=>rw [hg] at h; exact .inl ⟨by simp [Region.wanted,hg],h⟩
  | some g=>rw [hg] at h; exact h
 exact h'.imp (fun ⟨a,b⟩=>⟨a,b _ fun u w' h1=>h1⟩) id
def X8n (P:Program) (ops:Array Oper) (pre:Nat -> List Nat) (tail:List Nat) (w0:World) (D:Nat -> (Nat -> Value) -> World -> Prop):List ((Nat -> Value) -> World -> World -> Prop) -> ((Nat -> Value) -> World -> World -> Prop) -> List Oper -> List Kind -> List Nat -> ((Nat -> Value) -> Act) -> Prop
 | El,T,o :: l,k :: kl,j :: jl,b =>
   match k,El with
   | .last,E :: El=>(∀ v w1,Ext w0 w1 -> Facts pre D v w1 ((pre j).filter fun i=>!tail.contains i) (∀ w,T v w1 w -> ∀ bb,bb=b v -> Guarded ops o bb (Due P pre D E .last o j bb v w1 w) (Pass pre D E .last j v w1 w))) /\
      X8n P ops pre tail w0 D El (fun v w1 w=>E (mask pre j v) w1 w) l kl jl (fun v=>(b v).put o.dst (v j))
   | .last,[]=>False
   | k,El=>(∀ v w1,Ext w0 w1 -> Facts pre D v w1 (pre j) (Guarded ops o (b v) (Due P pre D (fun _ _ _=>False) k o j (b v) v w1 w1) (Pass pre D (fun _ _ _=>False) k j v w1 w1))) /\ X8n P ops pre tail w0 D El T l kl jl (fun v=>(b v).put o.dst (v j))
 | _,_,_,_,_,_=>True
def X8u:Kind -> Bool | .world=>true | _=>false
def isLast:Kind -> Bool | .last=>true | _=>false
def okL (ops:List Oper) (pl:List (List Nat)) (kl:List Kind) (tail:List Nat) (n:Nat):Bool :=
 okB ops.toArray (lookup pl []) && kl.length == ops.length && (tail == (List.range ops.length).filter fun j=>isLast (lookup kl .plain j)) && (n == tail.length) &&
 ((List.range tail.length).all fun k=>(List.range k).all fun i=>(lookup pl [] (tail.getD k 0)).contains (tail.getD i 0)) &&
 ((List.range ops.length).all fun j=>isLast (lookup kl .plain j) || ((lookup pl [] j).all fun k=>!tail.contains k)) &&
 ((List.range ops.length).all fun j=>!X8u (lookup kl .plain j) || (tail.all fun s=>(lookup pl [] s).contains j))
theorem Q5o (v:Nat -> Value):∀ (l:List Oper) (i j:Nat) (a:Act),act (fun k=>decide (k < i + j)) v l i a=act (fun _=>true) v (l.take j) i a
 | [],i,j,a=>by simp [act]
 | o :: l,i,0,a=>by
   simp only [Nat.add_zero,List.take_zero,act];rw [if_neg (by simp)]
   have:∀ (l:List Oper) (k:Nat) (a:Act),i <= k -> act (fun k=>decide (k < i)) v l k a=a:=by
    intro l
    induction l with
    | nil=>intro k a _; rfl
    | cons o l ih=>intro k a hk; rw [act,if_neg (by simp; omega)]; exact ih (k + 1) a (by omega)
   exact this l (i + 1) a (by omega)
 | o :: l,i,j + 1,a=>by
   rw [List.take_succ_cons,act,act,if_pos (by simp),if_pos rfl]
   have:=Q5o v l (i + 1) j (a.put o.dst (v i))
   rwa [show i + 1 + j=i + (j + 1) from by omega] at this
theorem Z4k {P:Program} {ops:Array Oper} {pre:Nat -> List Nat} {tail:List Nat} {w0:World} {D:Nat -> (Nat -> Value) -> World -> Prop} :
    ∀ (l:List Oper) (kl:List Kind) (El:List ((Nat -> Value) -> World -> World -> Prop)) (T:(Nat -> Value) -> World -> World -> Prop) (i:Nat) (b:(Nat -> Value) -> Act),kl.length=l.length ->
     X8n P ops pre tail w0 D El T l kl (List.range' i l.length) b -> ∀ j o,l[j]?=some o -> lookup kl .plain j ≠ .last -> ∀ v w1,Ext w0 w1 ->
     (∀ n ∈ pre (i + j),D n (mask pre n v) w1) -> vc P ops pre Ext D (fun _ _ _=>False) (fun _ _ _=>False) (lookup kl .plain j) o (i + j) (act (fun _=>true) v (l.take j) i (b v)) v w1
 | [],_,_,_,_,_,_,_,j,_,h,_,_,_,_,_=>by simp at h
 | o :: l,[],_,_,_,_,hk,_,_,_,_,_,_,_,_,_=>by simp at hk
 | o :: l,k :: kl,El,T,i,b,hk,h,j,o',hj,hne,v,w1,hx,hf=>by
   rw [List.length_cons,List.range'_succ] at h;cases j with
   | zero =>
     simp only [List.getElem?_cons_zero,Option.some.injEq] at hj;subst hj;simp only [lookup] at hne ⊢;cases k with
     | last=>exact absurd rfl hne
     | plain=>simp only [X8n] at h; simpa [act] using K0l hne ((h.1 v w1 hx).out (by simpa using hf))
     | world=>simp only [X8n] at h; simpa [act] using K0l hne ((h.1 v w1 hx).out (by simpa using hf))
   | succ j =>
     have Qv:∃ El T,X8n P ops pre tail w0 D El T l kl (List.range' (i + 1) l.length) (fun v=>(b v).put o.dst (v i)):=by
      cases k with
      | last=>cases El with
        | nil=>simp only [X8n] at h
        | cons E El=>simp only [X8n] at h; exact ⟨_,_,h.2⟩
      | plain=>simp only [X8n] at h; exact ⟨_,_,h.2⟩
      | world=>simp only [X8n] at h; exact ⟨_,_,h.2⟩
     obtain ⟨El',T',h'⟩:=Qv;have:=Z4k l kl El' T' (i + 1) _ (by simpa using hk) h' j o' (by simpa using hj) (by simpa [lookup] using hne) v w1 hx (by rwa [show i + 1 + j=i + (j + 1) from by omega])
     rw [show i + 1 + j=i + (j + 1) from by omega] at this
     simpa [act,lookup] using this
def lasts:List Kind -> Nat -> List Nat
 | [],_=>[]
 | .last :: l,i=>i :: lasts l (i + 1)
 | _ :: l,i=>lasts l (i + 1)
theorem X8i:∀ (kl:List Kind) (i:Nat),lasts kl i=(List.range' i kl.length).filter fun j=>isLast (lookup kl .plain (j - i))
 | [],_=>rfl
 | k :: l,i=>by
   rw [List.length_cons,List.range'_succ,List.filter_cons,Nat.sub_self];have e:((List.range' (i + 1) l.length).filter fun j=>isLast (lookup (k :: l) .plain (j - i)))=(List.range' (i + 1) l.length).filter fun j=>isLast (lookup l .plain (j - (i + 1))):=by
    refine List.filter_congr fun j hj=>?_;have Sv:=(List.mem_range'_1.1 hj).1;rw [show j - i=(j - (i + 1)) + 1 from by omega]; rfl
   rw [e,<- X8i l (i + 1)];cases k <;> simp [lasts,lookup,isLast]
theorem X0a {P:Program} {ops:Array Oper} {pre:Nat -> List Nat} {tail:List Nat} {w0:World} {D:Nat -> (Nat -> Value) -> World -> Prop} (E:Nat -> (Nat -> Value) -> World -> World -> Prop) :
    ∀ (l:List Oper) (kl:List Kind) (El:List ((Nat -> Value) -> World -> World -> Prop)) (i:Nat) (b:(Nat -> Value) -> Act) (c0:Nat),kl.length=l.length -> tail.drop c0=lasts kl i -> (∀ n,n < (lasts kl i).length -> El[n]?=some (E (c0 + n))) ->
     X8n P ops pre tail w0 D El (Tail pre tail E c0) l kl (List.range' i l.length) b -> ∀ n,n < (lasts kl i).length -> ∀ j o,tail[c0 + n]?=some (i + j) -> l[j]?=some o -> ∀ v w1,Ext w0 w1 ->
     (∀ m ∈ pre (i + j),m ∉ tail -> D m (mask pre m v) w1) -> vc P ops pre Ext D (Tail pre tail E (c0 + n)) (E (c0 + n)) .last o (i + j) (act (fun _=>true) v (l.take j) i (b v)) v w1
 | [],[],_,_,_,_,_,_,_,_,n,h,_,_,_,_,_,_,_,_=>by simp [lasts] at h
 | [],_ :: _,_,_,_,_,hk,_,_,_,_,_,_,_,_,_,_,_,_,_=>by simp at hk
 | o :: l,[],_,_,_,_,hk,_,_,_,_,_,_,_,_,_,_,_,_,_=>by simp at hk
 | o :: l,k :: kl,El,i,b,c0,hk,Q1,hE,h,n,hn,j,o',ht,hj,v,w1,hx,hf=>by
   rw [List.length_cons,List.range'_succ] at h;have dq:∀ (kl:List Kind) (i:Nat),∀ x ∈ lasts kl i,i <= x:=by
    intro kl
    induction kl with
    | nil=>intro i x hx; simp [lasts] at hx
    | cons k kl ih => intro i x hx; cases k <;> simp only [lasts, List.mem_cons] at hx
                      . have:=ih _ _ hx; omega
                      . have:=ih _ _ hx; omega
                      . rcases hx with rfl | hx
                        . exact Nat.le_refl _
                        . have:=ih _ _ hx; omega
   have Vg:(lasts (k :: kl) i)[n]?=some (i + j):=by rw [<- Q1,List.getElem?_drop]; exact ht
   have QZ:k ≠ .last -> ∃ j',j=j' + 1 /\ (lasts kl (i + 1))[n]?=some (i + 1 + j'):=by
    intro hne;have e:lasts (k :: kl) i=lasts kl (i + 1):=by cases k <;> first | rfl | exact absurd rfl hne
    rw [e] at Vg;have:=dq kl (i + 1) _ (List.mem_of_getElem? Vg);exact ⟨j - 1,by omega,by rw [Vg]; congr 1; omega⟩
   cases k with
   | plain =>
     obtain ⟨j',rfl,lg⟩:=QZ (by simp)
     simp only [X8n] at h;have:=X0a E l kl El (i + 1) _ c0 (by simpa using hk) (by simpa [lasts] using Q1) (by simpa [lasts] using hE) h.2 n (by simpa [lasts] using hn) j' o' (by rw [ht]; congr 1; omega) (by simpa using hj) v w1 hx (by rwa [show i + 1 + j'=i + (j' + 1) from by omega])
     rw [show i + 1 + j'=i + (j' + 1) from by omega] at this
     simpa [act] using this
   | world =>
     obtain ⟨j',rfl,lg⟩:=QZ (by simp)
     simp only [X8n] at h;have:=X0a E l kl El (i + 1) _ c0 (by simpa using hk) (by simpa [lasts] using Q1) (by simpa [lasts] using hE) h.2 n (by simpa [lasts] using hn) j' o' (by rw [ht]; congr 1; omega) (by simpa using hj) v w1 hx (by rwa [show i + 1 + j'=i + (j' + 1) from by omega])
     rw [show i + 1 + j'=i + (j' + 1) from by omega] at this
     simpa [act] using this
   | last =>
     cases El with
     | nil=>simp only [X8n] at h
     | cons E0 El =>
       have e0:E0=E c0:=by have:=hE 0 (by simp [lasts]); simpa using this
       subst e0;simp only [X8n] at h;have zW:tail.getD c0 0=i:=by
        have:(tail.drop c0)[0]?=some i:=by rw [Q1]; rfl
        rw [List.getElem?_drop] at this
        simpa using congrArg (fun x=>x.getD 0) this
       cases n with
       | zero =>
         have hj0:j=0:=by
          have:(lasts (.last :: kl) i)[0]?=some i:=rfl;rw [this] at Vg; simp at Vg; omega
         subst hj0;simp only [List.getElem?_cons_zero,Option.some.injEq] at hj;subst hj;have:=J7k (h:=fun w hT=>(h.1 v w1 hx).out (fun m hm=>by
          simp only [List.mem_filter,Bool.not_eq_true',List.contains_eq_mem,decide_eq_false_iff_not] at hm;exact hf m (by simpa using hm.1) hm.2) w hT _ rfl)
         simpa [act] using this
       | succ n =>
         have tq:(lasts kl (i + 1))[n]?=some (i + j):=by simpa [lasts] using Vg
         have LQ:=dq kl (i + 1) _ (List.mem_of_getElem? tq);obtain ⟨j',rfl⟩:∃ j',j=j' + 1:=⟨j - 1,by omega⟩
         have hT:(fun v w1 w=>E c0 (mask pre i v) w1 w)=Tail pre tail E (c0 + 1):=by
          funext v w1 w
          show _=E c0 (mask pre (tail.getD c0 0) v) w1 w;rw [zW]
         have h2:=h.2;rw [hT] at h2;have:=X0a E l kl El (i + 1) _ (c0 + 1) (by simpa using hk) (by
             have e:tail.drop (c0 + 1)=(tail.drop c0).drop 1:=by rw [List.drop_drop]
             rw [e,Q1]; rfl) (fun m hm=>by
             have:=hE (m + 1) (by simpa [lasts] using hm)
             rw [show c0 + 1 + m=c0 + (m + 1) from by omega]
             simpa using this) h2 n (by simpa [lasts] using hn) j' o' (by rw [show c0 + 1 + n=c0 + (n + 1) from by omega,ht]; congr 1; omega) (by simpa using hj) v w1 hx (by rwa [show i + 1 + j'=i + (j' + 1) from by omega])
         rw [show i + 1 + j'=i + (j' + 1) from by omega,show c0 + 1 + n=c0 + (n + 1) from by omega] at this
         simpa [act] using this
def acts (v:Nat -> Value):List Oper -> List Nat -> Act -> Act
 | o :: l,j :: jl,a=>acts v l jl (a.put o.dst (v j))
 | _,_,a=>a
theorem Y6p (v:Nat -> Value):∀ (l:List Oper) (i:Nat) (a:Act),acts v l (List.range' i l.length) a=act (fun _=>true) v l i a
 | [],_,_=>rfl
 | o :: l,i,a=>by rw [List.length_cons,List.range'_succ,acts,act,Y6p v l]; rfl
def All (pre:Nat -> List Nat) (D:Nat -> (Nat -> Value) -> World -> Prop) (v:Nat -> Value) (w:World) (tail:List Nat):List Nat -> Prop -> Prop
 | [],G=>G
 | j :: l,G=>if tail.contains j=true then All pre D v w tail l G else D j (mask pre j v) w -> All pre D v w tail l G
theorem All.out {pre:Nat -> List Nat} {D:Nat -> (Nat -> Value) -> World -> Prop} {v:Nat -> Value} {w:World} {tail:List Nat} {G:Prop}:∀ {l:List Nat},All pre D v w tail l G -> (∀ k ∈ l,k ∉ tail -> D k (mask pre k v) w) -> G
 | [],h,_=>h
 | j :: l,h,hf=>by
   unfold All at h
   split at h
   . exact All.out h (fun k hk=>hf k (by simp [hk]))
   . rename_i hj
     exact All.out (h (hf j (by simp) (by simpa using hj))) (fun k hk=>hf k (by simp [hk]))
def endOf (pre:Nat -> List Nat) (v:Nat -> Value) (w1 w:World):List Nat -> List ((Nat -> Value) -> World -> World -> Prop) -> Prop
 | [j],[E]=>E (mask pre j v) w1 w
 | _ :: jl,_ :: El=>endOf pre v w1 w jl El
 | _,_=>w=w1
section
variable {P:Program} {id:Nat} {Q:Exit -> Act -> World -> Prop} {a0:Act} {w:World} {ops:List Oper}
theorem J8z (news:List Nat) (kl:List Kind) (jl:List Nat) (pl:List (List Nat)) (tail:List Nat) (Dl:List Spec) (El:List ((Nat -> Value) -> World -> World -> Prop))
    (hm:P.follows .mixedOrders=true) (Zj:jl=List.range' 0 ops.length) (Ej:okL ops pl kl tail El.length=true)
    (Jz:X8n P ops.toArray (lookup pl []) tail w.drew (fun k=>(lookup Dl .none k).D) El (fun _ w1 w=>w=w1) ops kl jl (fun _=>a0))
    (Jj:news.all (fun j=>decide (j < ops.length) && X8u (lookup kl .plain j))=true) (PZ:∀ j ∈ news,∀ o,ops[j]?=some o -> Made P o)
    (Xj:∀ v w1,Ext w.drew w1 -> K1s news v -> All (lookup pl []) (fun k=>(lookup Dl .none k).D) v w1 tail jl (∀ w',endOf (lookup pl []) v w1 w' tail El -> Q .normal (acts v ops jl a0) w')) :
    (Code.region id ops.toArray true).wp P Q a0 w:=by
 subst Zj;simp only [Y6p] at Xj;simp only [okL,Bool.and_eq_true,List.all_eq_true,List.mem_range,beq_iff_eq,Bool.or_eq_true,Bool.not_eq_true',List.contains_eq_mem,decide_eq_true_eq,decide_eq_false_iff_not] at Ej;obtain ⟨⟨⟨⟨⟨⟨Ej,Fq⟩,Bj⟩,hn⟩,uj⟩,Dx⟩,dj⟩:=Ej;have tq:∀ j,j ∈ tail ↔ j < ops.length /\ isLast (lookup kl .plain j)=true:=by intro j; rw [Bj,List.mem_filter,List.mem_range]
 have hk:∀ j,isLast (lookup kl .plain j)=true ↔ lookup kl .plain j=.last:=by intro j; cases lookup kl .plain j <;> simp [isLast]
 have kg:lasts kl 0=tail:=by
  rw [X8i,Bj,Fq,List.range_eq_range'];rfl
 have OZ:∀ n,n < (lasts kl 0).length -> El[n]?=some ((fun c=>(El[c]?).getD fun _ _ _=>True) (0 + n)):=by
  intro n r7;rw [kg,<- hn] at r7;simp [r7]
 have Ug:∀ v w1 w',Tail (lookup pl []) tail (fun c=>(El[c]?).getD fun _ _ _=>True) tail.length v w1 w' -> endOf (lookup pl []) v w1 w' tail El:=by
  intro v w1 w' h;have gen:∀ (tl:List Nat) (el:List ((Nat -> Value) -> World -> World -> Prop)),el.length=tl.length -> (tl=[] -> w'=w1) -> (∀ (hne:tl ≠ []),((el[tl.length - 1]?).getD fun _ _ _=>True) (mask (lookup pl []) (tl.getD (tl.length - 1) 0) v) w1 w') -> endOf (lookup pl []) v w1 w' tl el:=by
   intro tl
   induction tl with
   | nil=>intro el _ h0 _; cases el <;> exact h0 rfl
   | cons j tl ih =>
     intro el hl _ h1;cases el with
     | nil=>simp at hl
     | cons E el =>
       cases tl with
       | nil=>cases el with
         | nil=>simpa [endOf] using h1 (by simp)
         | cons _ _=>simp at hl
       | cons j' tl=>cases el with
         | nil=>simp at hl
         | cons E' el =>
           show endOf _ v w1 w' (j' :: tl) (E' :: el);exact ih _ (by simpa using hl) (fun h=>by simp at h) (fun _=>by simpa using h1 (by simp))
  refine gen tail El hn.symm.symm (fun h0=>?_) (fun hne=>?_)
  . rw [h0] at h; exact h
  . obtain ⟨m,hm⟩:∃ m,tail.length=m + 1:=⟨tail.length - 1,by have:=List.length_pos_iff.2 hne; omega⟩
    rw [hm] at h;rw [hm,Nat.add_sub_cancel];exact h
 refine Y2w news tail (lookup kl .plain) (Rel:=Ext) (D:=fun k=>(lookup Dl .none k).D) (E:=fun c=>(El[c]?).getD fun _ _ _=>True) hm (J8p Ej)
  (fun i hi=>by simpa using ((tq _).1 (List.getElem_mem hi)).1) (fun i k hi hk hik=>by have:=uj k hk i hik; simpa [hi,hk] using this)
  (fun j Zj yw k hk'=>?_) (fun j Zj=>?_) (fun j Zj hjw s hs=>?_)
  Ext.refl (fun _ _ _=>Ext.trans) (fun k _ v w w' hx hd=>(lookup Dl .none k).mono v w w' hx hd) (fun j o ho yw v w1 hx hf=>?_) (fun c hc o ho v w1 hx hf=>?_) (fun j hj=>?_) (fun _ _ h=>h.size) (fun v w1 w' hx hnw hf hE=>?_)
 . rcases Dx j (by simpa using Zj) with h | h
   . exact absurd ((tq j).2 ⟨by simpa using Zj,h⟩) yw
   . exact h k hk'
 . rw [tq,hk]; simp at Zj; simp [Zj]
 . rcases dj j (by simpa using Zj) with h | h
   . rw [hjw] at h; simp [X8u] at h
   . exact h s hs
 . have Zj:j < ops.length:=by simpa using (Array.getElem?_eq_some_iff.1 ho).1
   have:=Z4k ops kl El _ 0 _ Fq Jz j o (by simpa using ho) (fun h=>yw ((tq j).2 ⟨Zj,(hk j).2 h⟩)) v w1 hx (by simpa using hf)
   rw [Nat.zero_add] at this;have e:=Q5o v ops 0 j a0;rw [Nat.zero_add] at e
   simpa [e] using this
 . have:=X0a (fun c=>(El[c]?).getD fun _ _ _=>True) ops kl El 0 _ 0 Fq (by rw [kg]; rfl) OZ Jz c (by rw [kg]; exact hc) tail[c] o (by simp [hc]) (by simpa using ho) v w1 hx (by simpa using hf)
   rw [Nat.zero_add,Nat.zero_add] at this;have e:=Q5o v ops 0 tail[c] a0;rw [Nat.zero_add] at e
   simpa [e] using this
 . have h1:=List.all_eq_true.1 Jj j hj
   simp only [Bool.and_eq_true,decide_eq_true_eq] at h1;refine ⟨by simpa using h1.1,?_,fun o ho=>PZ j hj o (by simpa using ho)⟩
   have h2:=h1.2;cases hk:lookup kl .plain j <;> rw [hk] at h2 <;> first | rfl | cases h2
 . exact (Xj v w1 hx hnw).out (fun k hk Cx=>hf k (by simpa using hk) Cx) w' (Ug v w1 w' hE)
theorem region (kl:List Kind) (jl:List Nat) (pl:List (List Nat)) (tail:List Nat) (Dl:List Spec) (El:List ((Nat -> Value) -> World -> World -> Prop))
    (hm:P.follows .mixedOrders=true) (Zj:jl=List.range' 0 ops.length) (Ej:okL ops pl kl tail El.length=true)
    (Jz:X8n P ops.toArray (lookup pl []) tail w.drew (fun k=>(lookup Dl .none k).D) El (fun _ w1 w=>w=w1) ops kl jl (fun _=>a0))
    (Xj:∀ v w1,Ext w.drew w1 -> All (lookup pl []) (fun k=>(lookup Dl .none k).D) v w1 tail jl (∀ w',endOf (lookup pl []) v w1 w' tail El -> Q .normal (acts v ops jl a0) w')) :
    (Code.region id ops.toArray true).wp P Q a0 w :=
 J8z [] kl jl pl tail Dl El hm Zj Ej Jz rfl (fun _ h=>nomatch h) (fun v w1 hx _=>Xj v w1 hx)
theorem J6x (kl:List Kind) (jl:List Nat) (pl:List (List Nat)) (Dl:List Spec)
    (hm:P.follows .mixedOrders=true) (Zj:jl=List.range' 0 ops.length) (Ej:okL ops pl kl [] 0=true)
    (Jz:X8n P ops.toArray (lookup pl []) [] w.drew (fun k=>(lookup Dl .none k).D) [] (fun _ w1 w=>w=w1) ops kl jl (fun _=>a0))
    (Xj:∀ v w1,Ext w.drew w1 -> All (lookup pl []) (fun k=>(lookup Dl .none k).D) v w1 [] jl (Q .normal (acts v ops jl a0) w1)) :
    (Code.region id ops.toArray true).wp P Q a0 w :=
 region kl jl pl [] Dl [] hm Zj Ej Jz (fun v w1 hx=>by
  have:=Xj v w1 hx;have gen:∀ (jl:List Nat) (G G':Prop),(G -> G') -> All (lookup pl []) (fun k=>(lookup Dl .none k).D) v w1 [] jl G -> All (lookup pl []) (fun k=>(lookup Dl .none k).D) v w1 [] jl G':=by
   intro jl
   induction jl with
   | nil=>intro G G' h hG; exact h hG
   | cons j jl ih =>
     intro G G' h hG;simp only [All,List.contains_nil,Bool.false_eq_true,if_false] at hG ⊢;exact fun hd=>ih G G' h (hG hd)
  exact gen _ _ _ (fun h w' (hE:w'=w1)=>hE ▸ h) this)
end
end Go.Flow
namespace Go.Tw
open Go.RowKit
def Q0n {α:Type} (w:World) (base:Nat) (e:TypeId) (enc:α -> Value) (v:Value) (l:List α):Prop:=w.ownsRow base e 1 v l.length (l.map enc)
theorem Q0n.nil {α:Type} (w:World) (base:Nat) (e:TypeId) (enc:α -> Value):Q0n w base e enc (.slice none 0 0) []:=World.ownsRow_nil w base e 1
theorem Q0n.row {α:Type} {w:World} {base:Nat} {e:TypeId} {enc:α -> Value} {v:Value} {l:List α} (h:Q0n w base e enc v l) (hl:l.length <= 17592186043904) (c:Nat -> Value)
    (hc:∀ k (hk:k < l.length),c k=enc l[k]):Row w v l.length 1 c:=by
 obtain ⟨_,h2⟩:=h
 rcases h2 with ⟨rfl,h0⟩ | ⟨g,Qq,cur,rfl,_,hg,Kq,_,_,mx⟩
 . exact ⟨none,0,by rw [h0],hl,by omega,fun j hj=>by omega⟩
 . refine ⟨some ⟨g,0,none⟩,Qq,rfl,hl,Kq,fun j hj=>⟨g,0,rfl,?_⟩⟩
   have Sv:j < l.length:=by omega
   rw [Nat.zero_add];have h1:=congrArg (fun l=>l[j]?) mx;simp only [Nat.mul_one,List.getElem?_take,Sv,if_true,List.getElem?_map,List.getElem?_eq_getElem Sv,Option.map_some] at h1;simp only [World.cell?,hg,hc j Sv]
   simpa using h1
theorem Q0n.rows {α:Type} {w:World} {base:Nat} {e:TypeId} {enc:α -> Value} {v:Value} {l:List α} {R:World -> (Nat -> Value) -> α -> Prop} (h:Q0n w base e enc v l) (hl:l.length <= 17592186043904)
    (hR:∀ x ∈ l,R w (fun _=>enc x) x) (Yg:∀ c c' x,c 0=c' 0 -> R w c x -> R w c' x):Rows 1 R w v l:=by
 refine ⟨fun k=>((l.map enc)[k]?).getD undef,h.row hl _ (fun k hk=>by simp [hk]),fun j hj=>Yg _ _ _ ?_ (hR _ (List.getElem_mem hj))⟩
 simp [hj]
theorem Q0n.ints {w:World} {base:Nat} {e:TypeId} {v:Value} {l:List Int} (h:Q0n w base e (Value.int .i64) v l) (hl:l.length <= 17592186043904):Q0e w v l :=
 h.rows hl (fun _ _=>rfl) (fun _ _ _ h h'=>h ▸ h')
theorem Q0n.bools {w:World} {base:Nat} {e:TypeId} {v:Value} {l:List Bool} (h:Q0n w base e Value.bool v l) (hl:l.length <= 17592186043904):Q1f w v l :=
 h.rows hl (fun _ _=>rfl) (fun _ _ _ h h'=>h ▸ h')
theorem Q0n.below {α:Type} {w w':World} {base:Nat} {e:TypeId} {enc:α -> Value} {v:Value} {l:List α} (h:Q0n w base e enc v l) (hx:Ext w w'):Q0n w' base e enc v l:=by
 obtain ⟨h1,h2⟩:=h;refine ⟨h1,?_⟩
 rcases h2 with h2 | ⟨g,Qq,cur,hv,hb,hg,r⟩
 . exact .inl h2
 . refine .inr ⟨g,Qq,cur,hv,hb,?_,r⟩
   rw [Below.block hx g (Array.getElem?_eq_some_iff.1 hg).1]; exact hg
theorem Q0n.snoc {α:Type} {w:World} {base:Nat} {e:TypeId} {enc:α -> Value} {v:Value} {l:List α} {x:α} (h:w.ownsRow base e 1 v (l.length + 1) (l.map enc ++ [enc x])):Q0n w base e enc v (l ++ [x]):=by
 unfold Q0n; simpa using h
theorem Q2d {w wr w':World} {v:Value} {base:Nat} {e:TypeId} {n size:Nat} {xs:List Value} {o:Obj} (hx:Ext w wr) (Yq:wr.ownsRow base e size v n xs) (hb:w.heap.size <= base) (hg:(wr.alloc o).grownBy w' v.ownBlock):Ext w w' :=
 Below.grown (hx.alloc o) hg (by have:=hx.size; simp; omega) (fun k hk=>by have:=(Yq.lt k hk).1; omega)
theorem Q4d (w:World) (x:Value) (e:TypeId):∀ j u,[x][j]?=some u -> (w.alloc (.cells #[x] e)).cell? ((⟨w.heap.size,0,none⟩:Addr).add j)=some u:=by
 intro j u h;cases j with
 | zero =>
   simp only [List.getElem?_cons_zero,Option.some.injEq] at h;subst h;show (w.alloc (.cells #[x] e)).cell? ⟨w.heap.size,0,none⟩=some x;rw [World.cell?_alloc_at _ _ _ _ rfl];rfl
 | succ j=>simp at h
theorem Q2v {l:List Int} {k:Nat} (h:k < l.length):l.drop k=ix l k :: l.drop (k + 1):=by rw [Q5i h]; exact List.drop_eq_getElem_cons h
end Go.Tw
namespace Go.Tw
open Go.RowKit Go.Flow
theorem Q0d {P:Program} {f:FuncId} {args:Array Value} {w:World} {K:Value -> World -> Prop} {R:Ending -> World -> Prop} (h:Calls P f args w R) (hk:∀ e w',R e w' -> ∃ u,e=.returned u /\ K u w') :
    gives P K (.ok (.enter f args) w):=h.mono hk
theorem Y5o (w:World) (cs:Array Value) (e:TypeId) (i:Nat):(w.alloc (.cells cs e)).cell? ⟨w.heap.size,i,none⟩=cs[i]?:=by
 rw [World.cell?_alloc_at _ _ _ _ rfl]
theorem Ext.box (w:World) (o:Obj):Ext w (w.alloc o):=(Ext.refl w).alloc o
theorem Ext.drewN {a b:World} (h:Ext a b) (n:Nat):Ext a (b.drewN n):=by
 obtain ⟨h1,h2,h3,h4,h5⟩:=h;exact ⟨h1,h2,h3,h4,h5⟩
theorem addr_add (b off j:Nat):(⟨b,off,none⟩:Addr).add j=⟨b,off + j,none⟩:=by unfold Addr.add; split <;> simp_all
theorem below_grown {α:Type} {w w':World} {base B:Nat} {e:TypeId} {enc:α -> Value} {v:Value} {xs:List α} (Yq:Q0n w base e enc v xs) (hg:w.grownBy w' v.ownBlock) (hb:B <= base) (hB:B <= w.heap.size):Below B w w' :=
 Below.grown (Below.refl _ _) hg hB (fun k hk=>Nat.le_trans hb (World.ownsRow.lt Yq k hk).1)
theorem Q0n.made {α:Type} (w:World) (base:Nat) (e:TypeId) (enc:α -> Value) (hb:base <= w.heap.size):Q0n (w.alloc (.cells #[] e)) base e enc (.slice (some ⟨w.heap.size,0,none⟩) 0 0) ([]:List α) :=
 World.ownsRow_made w #[] 0 hb (by unfold maxLen; omega) rfl
def Src {α:Type} (w:World) (enc:α -> Value) (v:Value) (ys:List α):Prop:=∃ A c,v=.slice A ys.length c /\ ∀ j (h:j < ys.length),∃ b off,A=some ⟨b,off,none⟩ /\ w.cell? ⟨b,off + j,none⟩=some (enc ys[j])
theorem Q7q {P:Program} (w:World) (t ty e:TypeId) (i:TypeInfo) (ht:P.underlying t=some (.slice e)) (hi:P.info? e=some i) (b A:Option Addr) (s c c':Nat) (h:s <= c) :
    (Builtin.append_ #[t,t] ty #[.slice b s c,.slice A 0 c']).run P w=.ok (.slice b s c) w:=by
 cases A <;> cases b <;> simp [Builtin.append_,run_underlying ht,sizeOf,typeInfo,hi,Builtin.lenOf,Builtin.firstCells,loadCells,loadCellsFrom,storeCells,h]
theorem Q0n.shape {α:Type} {w:World} {base:Nat} {e:TypeId} {enc:α -> Value} {v:Value} {xs:List α} (h:Q0n w base e enc v xs):∃ b c,v=.slice b xs.length c /\ xs.length <= c:=by
 rcases h.2 with ⟨rfl,h0⟩ | ⟨g,Qq,cur,rfl,_,_,hc,_⟩
 . exact ⟨none,0,by rw [h0],by omega⟩
 . exact ⟨_,Qq,rfl,hc⟩
theorem Q1s {α:Type} {P:Program} {K:Value -> World -> Prop} {o:Oper} {a:Act} {w:World} (s x:Operand) (t:TypeId) (ho:o.op=.call { callee:=.builtin .append,args:=#[s,x],argTypes:=#[t,t] })
    (base:Nat) (e:TypeId) (i:TypeInfo) (z:Value) (bytes:Nat) (ht:P.underlying t=some (.slice e)) (hi:P.info? e=some i) (hz:i.zero=some z) (zz:i.size=1) (M3:i.bytes=bytes) (Yy:z.cells.size=1)
    (enc:α -> Value) (v src:Value) (xs ys:List α) (hs:a.eval s=v) (Yq:Q0n w base e enc v xs) (hx:a.eval x=src) (Gy:Src w enc src ys) (h1:∀ y ∈ ys,(enc y).oneCell'=true)
    (Z7:xs.length + ys.length <= 4398046511104) (hb:bytes <= 32) (kz:base <= w.heap.size)
    (h:∀ v' w',Q0n w' base e enc v' (xs ++ ys) -> w.grownBy w' v.ownBlock -> K v' w'):gives P K ((execOp a.eval o).run P w):=by
 obtain ⟨A,c,rfl,hc⟩:=Gy;cases ys with
 | nil =>
   obtain ⟨b,c',rfl,Kq⟩:=Yq.shape;unfold execOp;simp only [ho,resolve,invoke,builtin,Sem.run_bind,Sem.run_pure,Result.andThen_ok,List.map_toArray,List.map_cons,List.map_nil,hs,hx];rw [List.length_nil,Q7q (P:=P) w t o.type e i ht hi b A xs.length c' c Kq];exact h _ _ (by simpa using Yq) ⟨rfl,rfl,rfl,Nat.le_refl _,fun _ _ _=>rfl⟩
 | cons y ys =>
   obtain ⟨b0,off0,rfl,_⟩:=hc 0 (by simp)
   obtain ⟨v',w',hr,h2,h3,h4⟩:=run_append_own (P:=P) w base t o.type e i z 1 bytes ht hi hz zz M3 Yy (by decide) v xs.length (xs.map enc) Yq ⟨b0,off0,none⟩ (y :: ys).length c ((y :: ys).map enc) (by simp) (fun j u hu=>by
    rw [List.getElem?_map] at hu
    rcases Nat.lt_or_ge j (y :: ys).length with hj | hj
    . rw [List.getElem?_eq_getElem hj] at hu
      simp only [Option.map_some,Option.some.injEq] at hu;obtain ⟨b',off',hA,Xq⟩:=hc j hj;cases hA;rw [<- hu,addr_add]; exact Xq
    . rw [List.getElem?_eq_none hj] at hu; cases hu) (fun u hu=>by obtain ⟨y,hy,rfl⟩:=List.mem_map.1 hu; exact h1 y hy) (by unfold maxLen; omega) (by
      have:(xs.length + (y :: ys).length) * bytes <= 4398046511104 * 32:=Nat.mul_le_mul Z7 hb;omega) kz
   unfold execOp;simp only [ho,resolve,invoke,builtin,Sem.run_bind,Sem.run_pure,Result.andThen_ok,List.map_toArray,List.map_cons,List.map_nil,hs,hx,hr];refine h v' w' ?_ h3;unfold Q0n
   simpa using h2
theorem Q6b {α:Type} {P:Program} {K:Value -> World -> Prop} {o:Oper} {a:Act} {w:World} (s x:Operand) (t:TypeId) (ho:o.op=.call { callee:=.builtin .append,args:=#[s,x],argTypes:=#[t,t] })
    (base:Nat) (e:TypeId) (i:TypeInfo) (z:Value) (bytes:Nat) (ht:P.underlying t=some (.slice e)) (hi:P.info? e=some i) (hz:i.zero=some z) (zz:i.size=1) (M3:i.bytes=bytes) (Yy:z.cells.size=1)
    (enc:α -> Value) (v src:Value) (ys:List α) (hs:a.eval s=v) (hv:∃ g,v=.slice (some ⟨g,0,none⟩) 0 0 /\ base <= g /\ w.heap[g]?=some (.cells #[] e (0,0))) (hx:a.eval x=src) (Gy:Src w enc src ys) (h1:∀ y ∈ ys,(enc y).oneCell'=true)
    (Z7:ys.length <= 4398046511104) (hb:bytes <= 32) (kz:base <= w.heap.size)
    (h:∀ v' w',Q0n w' base e enc v' ys -> Ext w w' -> K v' w'):gives P K ((execOp a.eval o).run P w):=by
 obtain ⟨g,rfl,Qx,hg⟩:=hv;have Yq:Q0n w base e enc (.slice (some ⟨g,0,none⟩) 0 0) ([]:List α):=⟨by simp,.inr ⟨g,0,#[],rfl,Qx,hg,Nat.le_refl _,Nat.zero_le _,rfl,by simp⟩⟩
 obtain ⟨A,c,rfl,hc⟩:=Gy;cases ys with
 | nil =>
   unfold execOp;simp only [ho,resolve,invoke,builtin,Sem.run_bind,Sem.run_pure,Result.andThen_ok,List.map_toArray,List.map_cons,List.map_nil,hs,hx];rw [List.length_nil,Q7q (P:=P) w t o.type e i ht hi _ A 0 0 c (Nat.le_refl _)];exact h _ _ Yq (Ext.refl _)
 | cons y ys =>
   obtain ⟨b0,off0,rfl,_⟩:=hc 0 (by simp)
   have Jj:∀ j u,((y :: ys).map enc)[j]?=some u -> w.cell? ((⟨b0,off0,none⟩:Addr).add j)=some u:=fun j u hu=>by
    rw [List.getElem?_map] at hu
    rcases Nat.lt_or_ge j (y :: ys).length with hj | hj
    . rw [List.getElem?_eq_getElem hj] at hu
      simp only [Option.map_some,Option.some.injEq] at hu;obtain ⟨b',off',hA,Xq⟩:=hc j hj;cases hA;rw [<- hu,addr_add]; exact Xq
    . rw [List.getElem?_eq_none hj] at hu; cases hu
   have xw:(y :: ys).length * bytes <= 140737488355328:=by
    have:(y :: ys).length * bytes <= 4398046511104 * 32:=Nat.mul_le_mul Z7 hb;omega
   obtain ⟨v',w',hr,h2,h3,h4⟩:=run_append_own (P:=P) w base t o.type e i z 1 bytes ht hi hz zz M3 Yy (by decide) _ 0 (([]:List α).map enc) Yq ⟨b0,off0,none⟩ (y :: ys).length c ((y :: ys).map enc) (by simp) Jj (fun u hu=>by obtain ⟨y,hy,rfl⟩:=List.mem_map.1 hu; exact h1 y hy) (by unfold maxLen; omega) (by rw [Nat.zero_add]; exact xw) kz
   have Xy:=run_append_grow (P:=P) w t o.type e i z ht hi hz ⟨g,0,none⟩ 0 0 [] (by simp) (by simp) ⟨b0,off0,none⟩ (y :: ys).length c ((y :: ys).map enc) (by rw [zz]; simp) Jj (by simp) (by simp only [List.length_cons] at Z7 ⊢; omega) (by rw [M3]; exact growslice_fits (by simp) (by rw [Nat.zero_add]; exact xw))
   rw [hr] at Xy;injection Xy with vp ei;unfold execOp;simp only [ho,resolve,invoke,builtin,Sem.run_bind,Sem.run_pure,Result.andThen_ok,List.map_toArray,List.map_cons,List.map_nil,hs,hx,hr];refine h v' w' ?_ (by rw [ei]; exact ((Ext.refl w).drew).alloc _)
   unfold Q0n
   simpa using h2
theorem Z9i {a b:ByteArray} {l:List UInt8} (hl:b.toList=l) (h:¬ a=b):(a.toList == l)=false:=by
 rw [<- hl,<- Go.beq_toListBytes]; exact X3g h
theorem toList_eq {a b:ByteArray} {l:List UInt8} (hl:b.toList=l) (h:a=b):(a.toList == l)=true:=by
 rw [<- hl,<- Go.beq_toListBytes]; exact str_eq h
end Go.Tw
namespace Go.Proofs
open Go.RowKit Go.Tw Go.Flow Tryz
theorem Tryz.J4t:Lays.n166 prog Tryz.lays156_ren :=
 have L:=Tryz.lays156
 { mixed:=L.mixed,f166:=L.f166,f240:=L.f240,f276:=L.f276,t0:=L.t0,a0:=L.a0,z0:=L.z0,v0:=L.v0,t3:=L.t3,a3:=L.a3,z3:=L.z3,v3:=L.v3,t4:=L.t4,a4:=L.a4,z4:=L.z4,v4:=L.v4,t9:=L.t9,a9:=L.a9,z9:=L.z9,v9:=L.v9,t20:=L.t20,a20:=L.a20,z20:=L.z20,v20:=L.v20,t37:=L.t37,a37:=L.a37,z37:=L.z37,v37:=L.v37,
   t70:=L.t70,a70:=L.a70,z70:=L.z70,v70:=L.v70,t72:=L.t72,a72:=L.a72,z72:=L.z72,v72:=L.v72,t75:=L.t75,a75:=L.a75,z75:=L.z75,v75:=L.v75,t164:=L.t164,a164:=L.a164,z164:=L.z164,v164:=L.v164 }
def Bld (w:World) (b:Nat) (l:List UInt8):Prop:=Lib.IsBuilder 214 5 b b (Lib.byteCells l) w
theorem Bld.fresh (w:World):Bld (w.alloc (.cells #[.pointer none,.slice none 0 0] 214)) w.heap.size []:=Lib.fresh_isBuilder _ _ w
theorem Bld.ext {w w':World} {b:Nat} {l:List UInt8} (h:Bld w b l) (hx:Ext w w'):Bld w' b l:=by
 have key:∀ p,Lib.BuilderAt 214 5 b b p (Lib.byteCells l) w -> Lib.BuilderAt 214 5 b b p (Lib.byteCells l) w':=by
  rintro p ⟨hB,v,hb,⟨h1,h2⟩,hne⟩;refine ⟨hB,v,by rw [Below.block hx b (Array.getElem?_eq_some_iff.1 hb).1]; exact hb,⟨h1,?_⟩,hne⟩
  rcases h2 with h2 | ⟨g,Qq,cur,hv,Qx,hg,r⟩
  . exact .inl h2
  . exact .inr ⟨g,Qq,cur,hv,Qx,by rw [Below.block hx g (Array.getElem?_eq_some_iff.1 hg).1]; exact hg,r⟩
 rcases h with h | h
 . exact .inl (key _ h)
 . exact .inr (key _ h)
theorem Bld.lt {w:World} {b:Nat} {l:List UInt8} (h:Bld w b l):b < w.heap.size:=by
 rcases h with h | h <;> exact h.lt
theorem write_any (w:World) (b:Nat) (l:List UInt8) (s:ByteArray) (h:Bld w b l) (hl:l.length + s.size <= 140737488355328) :
    Calls prog 148 #[.pointer (some ⟨b,0,none⟩),.string s] w fun e w'=>e=.returned (.tuple #[.int .i64 s.size,.nilIface]) /\ Bld w' b (l ++ s.data.toList) /\ Below b w w':=by
 have Tq:=h.lt;refine (Any.Builder_WriteString J4t Tryz.Builder_Extra_156 b b (Lib.byteCells l) s w h (by simpa [Lib.byteCells] using hl) (by omega)).mono ?_
 rintro e w' ⟨rfl,h1,h2⟩;refine ⟨rfl,.inr ?_,h2⟩;have e:Lib.byteCells (l ++ s.data.toList)=Lib.byteCells l ++ Lib.strCells s:=by simp [Lib.byteCells,Lib.strCells]
 rw [e]; exact h1
theorem Z4b (w:World) (b:Nat) (l:List UInt8) (h:Bld w b l) :
    Calls prog 150 #[.pointer (some ⟨b,0,none⟩)] w fun e w'=>e=.returned (.string ⟨l.toArray⟩) /\ Below b w w' :=
 Tryz.Builder_String_any b b l w h (by have:=h.lt; omega)
end Go.Proofs
namespace Go.Proofs
open Go.RowKit Go.Tw Tryz
theorem Tryz.info3:(prog.info? 3).map (fun i=>(i.zero,i.size,i.bytes))=some (some (.int .i64 0),1,8):=by kernel_rfl
theorem X3x (w:World) (v:Value) (l:List Int) (hv:Q0e w v l) :
    Calls prog 22 #[v] w fun e w'=>e=.returned (.int .i64 (Q0h l)) /\ w=w':=by
 obtain ⟨A,Qq,rfl,hl,Kq,hc⟩:=hv.opened;clear hv;go_enter func22,ntmps22;go_wp2
 go_loop [3] (fun i=>∃ k:Nat,k <= l.length /\ i=.int .i64 k /\ Q0h (l.drop k)=Q0h l) (fun i=>l.length - (intOf i).toNat)
 case atStart=>exact ⟨0,Nat.zero_le _,rfl,rfl⟩
 case round =>
  obtain ⟨k,hk,rfl,hr⟩:=hrel;have HR:=hid hr; clear hr
  by_cases Tq:k < l.length
  . obtain ⟨b,off,rfl,Xq⟩:=hc k Tq
    clear hc
    by_cases hx:ix l k=0
    . have HX:=hid hx
      have Yj:(ix l k != 0)=false:=by simp [hx]
      clear hx;go_wp2;go_round
      case rel=>exact ⟨k + 1,by omega,by go_num,by rw [<- HR.out,Q2v Tq,Q0h,if_pos HX.out]⟩
      case measure=>simp [intOf]; omega
    . have Yj:(ix l k != 0)=true:=by simp [hx]
      have HX:=hid hx; clear hx;go_wp2;go_ret;exact ⟨Q1c (by rw [<- HR.out,Q2v Tq,Q0h,if_neg HX.out]),rfl⟩
  . clear hc
    go_wp2;go_ret;exact ⟨Q1c (by rw [<- HR.out,List.drop_eq_nil_of_le (by omega)]; rfl),rfl⟩
theorem Z6s (w:World) (v:Value) (l:List Int) (x:Int) (hv:Q0e w v l) :
    Calls prog 40 #[v,.int .i64 x] w fun e w'=>e=.returned (.bool (has l x)) /\ w=w':=by
 obtain ⟨A,Qq,rfl,hl,Kq,hc⟩:=hv.opened;clear hv;go_enter func40,ntmps40;go_wp2
 go_loop [5] (fun i=>∃ k:Nat,k <= l.length /\ i=.int .i64 k /\ has (l.drop k) x=has l x) (fun i=>l.length - (intOf i).toNat)
 case atStart=>exact ⟨0,Nat.zero_le _,rfl,rfl⟩
 case round =>
  obtain ⟨k,hk,rfl,hr⟩:=hrel;have HR:=hid hr; clear hr
  by_cases Tq:k < l.length
  . obtain ⟨b,off,rfl,Xq⟩:=hc k Tq
    clear hc
    by_cases hx:ix l k=x
    . have HX:=hid hx
      have Yj:(ix l k == x)=true:=by simp [hx]
      clear hx;go_wp2;go_ret;exact ⟨Q0x (by rw [<- HR.out,Q2v Tq,X1u,HX.out]; simp),rfl⟩
    . have Yj:(ix l k == x)=false:=by simp [hx]
      have HX:=hid hx; clear hx;go_wp2;go_round
      case rel=>exact ⟨k + 1,by omega,by go_num,by rw [<- HR.out,Q2v Tq,X1u,beq_false_of_ne HX.out,Bool.false_or]⟩
      case measure=>simp [intOf]; omega
  . clear hc
    go_wp2;go_ret;exact ⟨Q0x (by rw [<- HR.out,List.drop_eq_nil_of_le (by omega)]; rfl),rfl⟩
theorem Q2q (w:World) (x a b:Int) :
    Calls prog 87 #[.int .i64 x,.int .i64 a,.int .i64 b] w fun e w'=>e=.returned (.int .i64 (Q0f x a b)) /\ w=w':=by
 unfold Q0f
 by_cases h1:x < a
 . rw [if_pos (.inl h1)]
   go_enter func87,ntmps87;go_wp2;go_ret;exact ⟨rfl,rfl⟩
 . by_cases h2:b < x
   . rw [if_pos (.inr h2)]
     go_enter func87,ntmps87;go_wp2;go_ret;exact ⟨rfl,rfl⟩
   . rw [if_neg (by omega)]
     go_enter func87,ntmps87;go_wp2;go_ret;exact ⟨rfl,rfl⟩
def Q0u (b:Bool) (e:Int):Int:=if b then e else 0
theorem Q2s (w:World) (b:Bool) (x:Int) :
    Calls prog 119 #[.bool b,.int .i64 x] w fun e w'=>e=.returned (.int .i64 (Q0u b x)) /\ w=w':=by
 cases b <;>
 . go_enter func119,ntmps119
   go_wp2;go_ret;exact ⟨rfl,rfl⟩
theorem first_any (w:World) (v:Value) (l:List Int) (hv:Q0e w v l) :
    Calls prog 96 #[v] w fun e w'=>e=.returned (.int .i64 (Q0h l)) /\ w=w':=by
 obtain ⟨A,Qq,rfl,hl,Kq,hc⟩:=hv.opened;clear hv;go_enter func96,ntmps96;go_wp2
 go_loop [7] (fun i=>∃ k:Nat,k <= l.length /\ i=.int .i64 k /\ Q0h (l.drop k)=Q0h l) (fun i=>l.length - (intOf i).toNat)
 case atStart=>exact ⟨0,Nat.zero_le _,rfl,rfl⟩
 case round =>
  obtain ⟨k,hk,rfl,hr⟩:=hrel;have HR:=hid hr; clear hr
  by_cases Tq:k < l.length
  . obtain ⟨b,off,rfl,Xq⟩:=hc k Tq
    clear hc
    by_cases hx:ix l k=0
    . have HX:=hid hx
      have Yj:(ix l k != 0)=false:=by simp [hx]
      clear hx;go_wp2;go_round
      case rel=>exact ⟨k + 1,by omega,by go_num,by rw [<- HR.out,Q2v Tq,Q0h,if_pos HX.out]⟩
      case measure=>simp [intOf]; omega
    . have Yj:(ix l k != 0)=true:=by simp [hx]
      have HX:=hid hx; clear hx;go_wp2;go_ret;exact ⟨Q1c (by rw [<- HR.out,Q2v Tq,Q0h,if_neg HX.out]),rfl⟩
  . clear hc
    go_wp2;go_ret;exact ⟨Q1c (by rw [<- HR.out,List.drop_eq_nil_of_le (by omega)]; rfl),rfl⟩
theorem Q8r (w:World) (x a b:Int) :
    Calls prog 125 #[.int .i64 x,.int .i64 a,.int .i64 b] w fun e w'=>e=.returned (.int .i64 (Q0f x a b)) /\ w=w':=by
 unfold Q0f
 by_cases h1:x < a
 . rw [if_pos (.inl h1)]
   go_enter func125,ntmps125;go_wp2;go_ret;exact ⟨rfl,rfl⟩
 . by_cases h2:b < x
   . rw [if_pos (.inr h2)]
     go_enter func125,ntmps125;go_wp2;go_ret;exact ⟨rfl,rfl⟩
   . rw [if_neg (by omega)]
     go_enter func125,ntmps125;go_wp2;go_ret;exact ⟨rfl,rfl⟩
theorem X0y (w:World) (x:Int) :
    Calls prog 118 #[.int .i64 x] w fun e w'=>e=.returned (.int .i64 (Q0f x 0 1024)) /\ w=w':=by
 go_enter func118,ntmps118;go_wp2_with (go_at_call 125; refine (Q8r _ x 0 1024).mono ?_; rintro e w' ⟨rfl,rfl⟩);go_ret;exact ⟨rfl,rfl⟩
theorem Y2y (w:World) (x:Int) :
    Calls prog 121 #[.int .i64 x] w fun e w'=>e=.returned (.int .i64 (Q0f x 0 1000)) /\ w=w':=by
 go_enter func121,ntmps121;go_wp2_with (go_at_call 125; refine (Q8r _ x 0 1000).mono ?_; rintro e w' ⟨rfl,rfl⟩);go_ret;exact ⟨rfl,rfl⟩
theorem Y2u (w:World) (x:Int) :
    Calls prog 126 #[.int .i64 x] w fun e w'=>e=.returned (.int .i64 (Q0f x 0 9)) /\ w=w':=by
 go_enter func126,ntmps126;go_wp2_with (go_at_call 125; refine (Q8r _ x 0 9).mono ?_; rintro e w' ⟨rfl,rfl⟩);go_ret;exact ⟨rfl,rfl⟩
theorem Q7c (w:World) (x:Int) :
    Calls prog 97 #[.int .i64 x] w fun e w'=>e=.returned (.int .i64 (Q0f x 0 8000)) /\ w=w':=by
 go_enter func97,ntmps97;go_wp2_with (go_at_call 125; refine (Q8r _ x 0 8000).mono ?_; rintro e w' ⟨rfl,rfl⟩);go_ret;exact ⟨rfl,rfl⟩
def Q1p (first:Bool):List UInt8 -> Bool
 | []=>true
 | c :: l=>(Q2f c || (!first && Q4v c)) && Q1p false l
theorem X6h:∀ l:List UInt8,Q1p false l=l.all fun c=>Q2f c || Q4v c
 | []=>rfl
 | c :: l=>by simp [Q1p,X6h l]
theorem Q2b (s:ByteArray):nameB s=(Q1p true s.data.toList && (decide (s.data.toList ≠ []) && decide (s.data.toList.length <= 24))):=by
 unfold nameB;cases s.data.toList with
 | nil=>rfl
 | cons c l =>
   simp only [Q1p,X6h,Bool.not_true,Bool.false_and,Bool.or_false,List.length_cons];rw [show decide (c :: l ≠ [])=true from by simp,Bool.true_and]
   congr 1
theorem Z5j (s:ByteArray) (pos:Nat) (h:pos < s.size):s.data.toList.drop pos=s[pos]'h :: s.data.toList.drop (pos + 1):=by
 have h':pos < s.data.toList.length:=by simpa using h
 rw [List.drop_eq_getElem_cons h'];rfl
theorem Y4w (c:UInt8):Q2f c=(decide (97 <= c.toNat /\ c.toNat <= 122) || decide (65 <= c.toNat /\ c.toNat <= 90)):=by
 unfold Q2f;simp only [UInt8.le_iff_toNat_le];simp
theorem Y9m (c:UInt8):Q4v c=(decide (c.toNat=95) || decide (48 <= c.toNat /\ c.toNat <= 57)):=by
 unfold Q4v;simp only [UInt8.le_iff_toNat_le];rw [show (c == 95)=decide (c.toNat=95) from by rw [show (c == 95)=decide (c=95) from rfl]; exact decide_eq_decide.2 ⟨fun h=>by subst h; rfl,fun h=>UInt8.toNat_inj.1 h⟩]
 simp
theorem J8g (s:ByteArray) (pos:Nat) (h:pos < s.size):∃ n d,Utf8.decode s pos=(n,d) /\ 1 <= d /\ (n < 128 -> n=(s[pos]'h).toNat /\ d=1) /\ (128 <= n -> 128 <= (s[pos]'h).toNat):=by
 by_cases ha:(s[pos]'h).toNat < 128
 . exact ⟨_,_,decode_ascii s pos h ha,Nat.le_refl _,fun _=>⟨rfl,rfl⟩,fun h'=>h'⟩
 . have:=decode_high s pos h (by omega)
   obtain ⟨n,d,Pv⟩:∃ n d,Utf8.decode s pos=(n,d):=⟨_,_,rfl⟩;rw [Pv] at this;exact ⟨n,d,Pv,this.2,fun h'=>by have:=this.1; omega,fun _=>by omega⟩
theorem Z5a {s:ByteArray} (h:s.toList=[]):s.data.toList=[]:=by rw [toList_nil_iff_emptyBytes] at h; subst h; rfl
theorem J1p {s:ByteArray} (h:¬ s.toList=[]):s.data.toList ≠ []:=fun e=>h (by
 rw [toList_nil_iff_emptyBytes];obtain ⟨⟨l⟩⟩:=s;simp only at e;subst e; rfl)
theorem Z8z (w:World) (s:ByteArray) (hs:Short s) :
    Calls prog 124 #[.string s] w fun e w'=>e=.returned (.bool (nameB s)) /\ Ext w w':=by
 unfold Short at hs;go_enter func124,ntmps124;go_wp2
 go_loopw [9] (fun _ w'=>∃ pos:Nat,w'=w.iter s pos /\ Q1p (pos == 0) (s.data.toList.drop pos)=Q1p true s.data.toList) (fun _ w'=>s.size - w'.iterPos w.heap.size)
 case atStart=>exact ⟨0,rfl,rfl⟩
 case round =>
  obtain ⟨pos,rfl,hc⟩:=hrel;have HC:=hid hc; clear hc
  by_cases hp:pos < s.size
  . obtain ⟨n,d,hd,di,Yv,OX⟩:=J8g s pos hp
    have KQ:∀ ty,(Instr.next (.pointer (some ⟨w.heap.size,0,none⟩)) true ty).run prog (w.iter s pos)=.ok (.tuple #[.bool true,.int .i64 pos,.int .i32 n]) (w.iter s (pos + d)):=fun ty=>by
     rw [run_next_any w s pos ty hp,hd]
    have HB:=hid (Z5j s pos hp);have HL:=hid (Y4w (s[pos]'hp));have HO:=hid (Y9m (s[pos]'hp));obtain ⟨c,Wg⟩:∃ c,s[pos]'hp=c:=⟨_,rfl⟩;rw [Wg] at Yv OX HB HL HO;have Wy:=hid Yv;have NX:=hid OX;clear Wg hd Yv OX;have hcl:(65 <= n /\ n <= 90) ∨ (97 <= n /\ n <= 122) ∨ (48 <= n /\ n <= 57) ∨ n=95 ∨ n < 48 ∨ (58 <= n /\ n < 65) ∨ (91 <= n /\ n < 97 /\ n ≠ 95) ∨ 123 <= n:=by omega
    obtain ⟨N,hN⟩:∃ N:Int,(n:Int)=N:=⟨_,rfl⟩;rw [hN] at KQ
    rcases hcl with hcl | hcl | hcl | hcl | hcl | hcl | hcl | hcl
    . have f0:65 <= N:=by omega
      have f1:N <= 90:=by omega
      have HX:Hid (Q2f c=true):=by
       exact (by rw [HL.out,<- (Wy.out (by omega)).1]; simp; omega:Q2f c=true)
      have HD:Hid (d=1):=by exact (Wy.out (by omega)).2
      clear hcl hN;go_wp2;go_roundw
      case rel=>exact ⟨pos + d,rfl,by rw [<- HC.out,HB.out,HD.out]; simp [Q1p,HX.out]⟩
      case measure=>simp; omega
    . have f0:65 <= N:=by omega
      have f1:¬ N <= 90:=by omega
      have f2:97 <= N:=by omega
      have f3:N <= 122:=by omega
      have HX:Hid (Q2f c=true):=by
       exact (by rw [HL.out,<- (Wy.out (by omega)).1]; simp; omega:Q2f c=true)
      have HD:Hid (d=1):=by exact (Wy.out (by omega)).2
      clear hcl hN;go_wp2;go_roundw
      case rel=>exact ⟨pos + d,rfl,by rw [<- HC.out,HB.out,HD.out]; simp [Q1p,HX.out]⟩
      case measure=>simp; omega
    . have f0:¬ 65 <= N:=by omega
      have f1:¬ 97 <= N:=by omega
      have f2:48 <= N:=by omega
      have f3:N <= 57:=by omega
      have HX:Hid (Q2f c=false /\ Q4v c=true):=by
       exact (by rw [HL.out,HO.out,<- (Wy.out (by omega)).1]; simp; omega:Q2f c=false /\ Q4v c=true)
      have HD:Hid (d=1):=by exact (Wy.out (by omega)).2
      clear hcl hN
      by_cases h0:pos=0
      . subst h0
        go_wp2;go_ret;exact ⟨Q0x (by rw [Q2b,<- HC.out,HB.out]; simp [Q1p,HX.out.1]),Ext.box _ _⟩
      . have Aw:(((pos:Nat):Int) == 0)=false:=by rw [beq_eq_false_iff_ne]; omega
        have HP:=hid h0; clear h0;go_wp2;go_roundw
        case rel=>exact ⟨pos + d,rfl,by rw [<- HC.out,HB.out,HD.out]; simp [Q1p,HX.out.1,HX.out.2,HP.out]⟩
        case measure=>simp; omega
    . have f0:65 <= N:=by omega
      have f1:¬ N <= 90:=by omega
      have f2:¬ 97 <= N:=by omega
      have f3:48 <= N:=by omega
      have f4:¬ N <= 57:=by omega
      have f5:(N == 95)=true:=by rw [beq_iff_eq]; omega
      have HX:Hid (Q2f c=false /\ Q4v c=true):=by
       exact (by rw [HL.out,HO.out,<- (Wy.out (by omega)).1]; simp; omega:Q2f c=false /\ Q4v c=true)
      have HD:Hid (d=1):=by exact (Wy.out (by omega)).2
      clear hcl hN
      by_cases h0:pos=0
      . subst h0
        go_wp2;go_ret;exact ⟨Q0x (by rw [Q2b,<- HC.out,HB.out]; simp [Q1p,HX.out.1]),Ext.box _ _⟩
      . have Aw:(((pos:Nat):Int) == 0)=false:=by rw [beq_eq_false_iff_ne]; omega
        have HP:=hid h0; clear h0;go_wp2;go_roundw
        case rel=>exact ⟨pos + d,rfl,by rw [<- HC.out,HB.out,HD.out]; simp [Q1p,HX.out.1,HX.out.2,HP.out]⟩
        case measure=>simp; omega
    . have f0:¬ 65 <= N:=by omega
      have f1:¬ 97 <= N:=by omega
      have f2:¬ 48 <= N:=by omega
      have f3:(N == 95)=false:=by rw [beq_eq_false_iff_ne]; omega
      have HX:Hid (Q2f c=false /\ Q4v c=false):=by
       exact (by
        rcases Nat.lt_or_ge n 128 with h | h
        . rw [HL.out,HO.out,<- (Wy.out h).1]; simp; omega
        . have:=NX.out h
          rw [HL.out,HO.out]; simp; omega:Q2f c=false /\ Q4v c=false)
      clear hcl hN
      by_cases h0:pos=0
      . subst h0
        go_wp2;go_ret;exact ⟨Q0x (by rw [Q2b,<- HC.out,HB.out]; simp [Q1p,HX.out.1]),Ext.box _ _⟩
      . have Aw:(((pos:Nat):Int) == 0)=false:=by rw [beq_eq_false_iff_ne]; omega
        have HP:=hid h0; clear h0;go_wp2;go_ret;exact ⟨Q0x (by rw [Q2b,<- HC.out,HB.out]; simp [Q1p,HX.out.1,HX.out.2]),Ext.box _ _⟩
    . have f0:¬ 65 <= N:=by omega
      have f1:¬ 97 <= N:=by omega
      have f2:48 <= N:=by omega
      have f3:¬ N <= 57:=by omega
      have f4:(N == 95)=false:=by rw [beq_eq_false_iff_ne]; omega
      have HX:Hid (Q2f c=false /\ Q4v c=false):=by
       exact (by
        rcases Nat.lt_or_ge n 128 with h | h
        . rw [HL.out,HO.out,<- (Wy.out h).1]; simp; omega
        . have:=NX.out h
          rw [HL.out,HO.out]; simp; omega:Q2f c=false /\ Q4v c=false)
      clear hcl hN
      by_cases h0:pos=0
      . subst h0
        go_wp2;go_ret;exact ⟨Q0x (by rw [Q2b,<- HC.out,HB.out]; simp [Q1p,HX.out.1]),Ext.box _ _⟩
      . have Aw:(((pos:Nat):Int) == 0)=false:=by rw [beq_eq_false_iff_ne]; omega
        have HP:=hid h0; clear h0;go_wp2;go_ret;exact ⟨Q0x (by rw [Q2b,<- HC.out,HB.out]; simp [Q1p,HX.out.1,HX.out.2]),Ext.box _ _⟩
    . have f0:65 <= N:=by omega
      have f1:¬ N <= 90:=by omega
      have f2:¬ 97 <= N:=by omega
      have f3:48 <= N:=by omega
      have f4:¬ N <= 57:=by omega
      have f5:(N == 95)=false:=by rw [beq_eq_false_iff_ne]; omega
      have HX:Hid (Q2f c=false /\ Q4v c=false):=by
       exact (by
        rcases Nat.lt_or_ge n 128 with h | h
        . rw [HL.out,HO.out,<- (Wy.out h).1]; simp; omega
        . have:=NX.out h
          rw [HL.out,HO.out]; simp; omega:Q2f c=false /\ Q4v c=false)
      clear hcl hN
      by_cases h0:pos=0
      . subst h0
        go_wp2;go_ret;exact ⟨Q0x (by rw [Q2b,<- HC.out,HB.out]; simp [Q1p,HX.out.1]),Ext.box _ _⟩
      . have Aw:(((pos:Nat):Int) == 0)=false:=by rw [beq_eq_false_iff_ne]; omega
        have HP:=hid h0; clear h0;go_wp2;go_ret;exact ⟨Q0x (by rw [Q2b,<- HC.out,HB.out]; simp [Q1p,HX.out.1,HX.out.2]),Ext.box _ _⟩
    . have f0:65 <= N:=by omega
      have f1:¬ N <= 90:=by omega
      have f2:97 <= N:=by omega
      have f3:¬ N <= 122:=by omega
      have f4:48 <= N:=by omega
      have f5:¬ N <= 57:=by omega
      have f6:(N == 95)=false:=by rw [beq_eq_false_iff_ne]; omega
      have HX:Hid (Q2f c=false /\ Q4v c=false):=by
       exact (by
        rcases Nat.lt_or_ge n 128 with h | h
        . rw [HL.out,HO.out,<- (Wy.out h).1]; simp; omega
        . have:=NX.out h
          rw [HL.out,HO.out]; simp; omega:Q2f c=false /\ Q4v c=false)
      clear hcl hN
      by_cases h0:pos=0
      . subst h0
        go_wp2;go_ret;exact ⟨Q0x (by rw [Q2b,<- HC.out,HB.out]; simp [Q1p,HX.out.1]),Ext.box _ _⟩
      . have Aw:(((pos:Nat):Int) == 0)=false:=by rw [beq_eq_false_iff_ne]; omega
        have HP:=hid h0; clear h0;go_wp2;go_ret;exact ⟨Q0x (by rw [Q2b,<- HC.out,HB.out]; simp [Q1p,HX.out.1,HX.out.2]),Ext.box _ _⟩
  . have KQ:∀ ty,(Instr.next (.pointer (some ⟨w.heap.size,0,none⟩)) true ty).run prog (w.iter s pos)=_:=fun ty=>run_next_end w s pos ty hp
    have HF:Hid (Q1p true s.data.toList=true):=by
     exact (by rw [<- HC.out,List.drop_eq_nil_of_le (by simpa using hp)]; rfl:Q1p true s.data.toList=true)
    have pq:s.data.toList.length=s.size:=by simp
    have HS:=hid pq;clear pq hp
    by_cases Se:(s.size:Int) <= 24
    . have VG:=hid Se
      go_wp2
      . have he:s.toList=[]:=by assumption
        go_ret;exact ⟨Q0x (by rw [Q2b,HF.out,Z5a he]; rfl),Ext.box _ _⟩
      . have he:¬ s.toList=[]:=by assumption
        go_ret;exact ⟨Q0x (by have:=HS.out; have:=VG.out; rw [Q2b,HF.out,Bool.true_and,decide_eq_true (J1p he),Bool.true_and]; rw [decide_eq_true (by omega:s.data.toList.length <= 24)]; simp [he]),Ext.box _ _⟩
    . have VG:=hid Se
      go_wp2
      . have he:s.toList=[]:=by assumption
        go_ret;exact ⟨Q0x (by rw [Q2b,HF.out,Z5a he]; rfl),Ext.box _ _⟩
      . have he:¬ s.toList=[]:=by assumption
        go_ret;exact ⟨Q0x (by have:=HS.out; have:=VG.out; rw [Q2b,HF.out,Bool.true_and,decide_eq_true (J1p he),Bool.true_and]; exact (decide_eq_false (by omega)).symm),Ext.box _ _⟩
end Go.Proofs
namespace Go.Proofs
open Go.RowKit Go.Tw Go.Flow Tryz
theorem Z6x (w:World) (s:ByteArray) (hs:Short s) :
    Calls prog 156 #[.string s] w fun e w'=>e=.returned (.bool (nameB s)) /\ w=w':=by
 unfold Short at hs;have pq:s.data.toList.length=s.size:=by simp
 by_cases hz:s.size=0
 . have HR:Hid (nameB s=false):=by
    rw [Q2b];have:s.data.toList=[]:=List.length_eq_zero_iff.1 (by omega)
    rw [this]; exact rfl
   have Re:((s.size:Int) == 0)=true:=by rw [beq_iff_eq]; omega
   clear hz pq;go_enter func156,ntmps156;go_wp2;go_ret;exact ⟨Q0x HR.out.symm,rfl⟩
 . have Re:((s.size:Int) == 0)=false:=by rw [beq_eq_false_iff_ne]; omega
   by_cases hb:24 < s.size
   . have HR:Hid (nameB s=false):=by
      rw [Q2b,show decide (s.data.toList.length <= 24)=false from decide_eq_false (by omega)]
      rw [Bool.and_false,Bool.and_false]; exact rfl
     have Mk:(24:Int) < (s.size:Int):=by omega
     clear hz pq;go_enter func156,ntmps156;go_wp2;go_ret;exact ⟨Q0x HR.out.symm,rfl⟩
   . have HR:Hid (nameB s=Q1p true s.data.toList):=by
      rw [Q2b,show decide (s.data.toList.length <= 24)=true from decide_eq_true (by omega),show decide (s.data.toList ≠ [])=true from decide_eq_true (fun e=>hz (by rw [<- pq,e]; rfl))]
      rw [Bool.and_true,Bool.and_true]; exact rfl
     have uz:=hid pq;have Mk:¬ (24:Int) < (s.size:Int):=by omega
     clear hz pq;go_enter func156,ntmps156;go_wp2
     go_loop [3] (fun i=>∃ k:Nat,k <= s.size /\ i=.int .i64 k /\ Q1p (k == 0) (s.data.toList.drop k)=Q1p true s.data.toList) (fun i=>s.size - (intOf i).toNat)
     case atStart=>exact ⟨0,Nat.zero_le _,rfl,rfl⟩
     case round =>
      obtain ⟨k,hk,rfl,hc⟩:=hrel;have HC:=hid hc; clear hc
      by_cases Tq:k < s.size
      . have HB:=hid (Z5j s k Tq)
        have HL:=hid (Y4w (s[k]'Tq));have HO:=hid (Y9m (s[k]'Tq));have hcl:(65 <= (s[k]'Tq).toNat /\ (s[k]'Tq).toNat <= 90) ∨ (97 <= (s[k]'Tq).toNat /\ (s[k]'Tq).toNat <= 122) ∨ (48 <= (s[k]'Tq).toNat /\ (s[k]'Tq).toNat <= 57) ∨ (s[k]'Tq).toNat=95 ∨ (s[k]'Tq).toNat < 48 ∨ (58 <= (s[k]'Tq).toNat /\ (s[k]'Tq).toNat < 65) ∨ (91 <= (s[k]'Tq).toNat /\ (s[k]'Tq).toNat < 97 /\ (s[k]'Tq).toNat ≠ 95) ∨ 123 <= (s[k]'Tq).toNat:=by omega
        have JQ:((s[k]'Tq).toNat:Int)=95 ∨ ¬ ((s[k]'Tq).toNat:Int)=95:=by omega
        have go (b1 b2:Bool) (hl:Q2f (s[k]'Tq)=b1) (ho:Q4v (s[k]'Tq)=b2):Q1p (k == 0) (s.data.toList.drop k)=((b1 || (!(k == 0) && b2)) && Q1p false (s.data.toList.drop (k + 1))):=by
         rw [HB.out,Q1p,hl,ho]
        have GO:=hid go;clear go
        rcases hcl with hcl | hcl | hcl | hcl | hcl | hcl | hcl | hcl
        case inl | inr.inl =>
         all_goals
          have HX:Hid (Q2f (s[k]'Tq)=true):=by
           exact (by rw [HL.out]; simp; omega:Q2f (s[k]'Tq)=true)
          have f0:decide (97 <= ((s[k]'Tq).toNat:Int))=decide (97 <= (s[k]'Tq).toNat):=by rw [decide_eq_decide]; omega
          have f1:(65:Int) <= ((s[k]'Tq).toNat:Int):=by omega
          have f2:((s[k]'Tq).toNat:Int) <= 122:=by omega
          first | (have f3:((s[k]'Tq).toNat:Int) <= 90:=by omega) | (have f3:(97:Int) <= ((s[k]'Tq).toNat:Int):=by omega)
          first | (have f4:¬ (97:Int) <= ((s[k]'Tq).toNat:Int):=by omega) | skip
          clear hcl JQ f0;go_wp2;go_round
          case rel=>exact ⟨k + 1,by omega,by go_num,by rw [<- HC.out,GO.out _ _ HX.out rfl,Bool.true_or,Bool.true_and]; rfl⟩
          case measure=>simp [intOf]; omega
        case inr.inr.inl | inr.inr.inr.inl =>
         all_goals
          have HX:Hid (Q2f (s[k]'Tq)=false /\ Q4v (s[k]'Tq)=true):=by
           exact (by rw [HL.out,HO.out]; simp; omega:Q2f (s[k]'Tq)=false /\ Q4v (s[k]'Tq)=true)
          have f1:¬ (97:Int) <= ((s[k]'Tq).toNat:Int):=by omega
          first | (have f2:¬ (65:Int) <= ((s[k]'Tq).toNat:Int):=by omega) | (have f2:(65:Int) <= ((s[k]'Tq).toNat:Int):=by omega)
          have f3:(¬ ((s[k]'Tq).toNat:Int) <= 90) ∨ ((s[k]'Tq).toNat:Int) <= 90:=by omega
          first | (have f4:¬ ((s[k]'Tq).toNat:Int) <= 90:=by omega) | skip
          first | (have f5:(((s[k]'Tq).toNat:Int) != 95)=false:=by rw [bne_eq_false_iff_eq]; omega) | (have f5:(((s[k]'Tq).toNat:Int) != 95)=true:=by rw [bne_iff_ne]; omega)
          first | (have f6:¬ ((s[k]'Tq).toNat:Int) < 48:=by omega) | skip
          first | (have f7:¬ (57:Int) < ((s[k]'Tq).toNat:Int):=by omega) | skip
          clear hcl JQ f3
          by_cases h0:k=0
          . subst h0
            go_wp2;go_ret;exact ⟨Q0x (by rw [HR.out,<- HC.out,GO.out _ _ HX.out.1 HX.out.2]; rfl),rfl⟩
          . have Aw:(((k:Nat):Int) == 0)=false:=by rw [beq_eq_false_iff_ne]; omega
            have HK:Hid ((k == 0)=false):=hid (by rw [beq_eq_false_iff_ne]; omega)
            clear h0;go_wp2;go_round
            case rel=>exact ⟨k + 1,by omega,by go_num,by rw [<- HC.out,GO.out _ _ HX.out.1 HX.out.2,HK.out]; rfl⟩
            case measure=>simp [intOf]; omega
        all_goals
         have HX:Hid (Q2f (s[k]'Tq)=false /\ Q4v (s[k]'Tq)=false):=by
          exact (by rw [HL.out,HO.out]; simp; omega:Q2f (s[k]'Tq)=false /\ Q4v (s[k]'Tq)=false)
         first | (have f1:¬ (97:Int) <= ((s[k]'Tq).toNat:Int):=by omega) | (have f1:(97:Int) <= ((s[k]'Tq).toNat:Int):=by omega)
         first | (have f2:¬ (65:Int) <= ((s[k]'Tq).toNat:Int):=by omega) | (have f2:(65:Int) <= ((s[k]'Tq).toNat:Int):=by omega)
         first | (have f3:¬ ((s[k]'Tq).toNat:Int) <= 122:=by omega) | skip
         first | (have f4:¬ ((s[k]'Tq).toNat:Int) <= 90:=by omega) | skip
         have f5:(((s[k]'Tq).toNat:Int) != 95)=true:=by rw [bne_iff_ne]; omega
         first | (have f6:((s[k]'Tq).toNat:Int) < 48:=by omega) | (have f6:¬ ((s[k]'Tq).toNat:Int) < 48:=by omega)
         first | (have f7:(57:Int) < ((s[k]'Tq).toNat:Int):=by omega) | skip
         clear hcl JQ
         by_cases h0:k=0
         . subst h0
           go_wp2;go_ret;exact ⟨Q0x (by rw [HR.out,<- HC.out,GO.out _ _ HX.out.1 HX.out.2]; rfl),rfl⟩
         . have Aw:(((k:Nat):Int) == 0)=false:=by rw [beq_eq_false_iff_ne]; omega
           clear h0;go_wp2;go_ret;exact ⟨Q0x (by rw [HR.out,<- HC.out,GO.out _ _ HX.out.1 HX.out.2]; simp),rfl⟩
      . go_wp2
        go_ret;exact ⟨Q0x (by rw [HR.out,<- HC.out,List.drop_eq_nil_of_le (by rw [uz.out]; omega)]; rfl),rfl⟩
end Go.Proofs
namespace Go.Tw
def Q0y (l:List Int) (most:Int):Int:=Q0h (l.map fun x=>Q0f x 0 most)
def Q4i (l:List Mem) (i:Nat):Bool:=(List.range i).any fun k=>Q1t l k == Q1t l i
namespace Q0b
def Q3y (s:Q0b) (i:Nat):Int :=
 if nameB (Q1t s.members i)=false then 8 else if Q4i s.members i=true then 9 else if Q0f (Q0o s.members i) 1 1000 ≠ 0 then 3 else
 if ¬ ((Q0c s.members i).length=s.ships.length /\ (Q0z s.members i).length=s.ships.length /\ (Q1g s.members i).length=s.ships.length) then 2 else
 Q0h [Q0y (Q0c s.members i) 9,Q0y (Q0z s.members i) 1024,Q0y (Q1g s.members i) 1024]
def err (s:Q0b):Int :=
 if Q0f s.limit 0 1024 ≠ 0 then 3 else if s.ships.length=0 then 12 else if 6 < s.ships.length then 5 else if Q0y s.ships 1000 ≠ 0 then 3 else
 if s.members.length=0 then 12 else if 8 < s.members.length then 5 else Q0h ((List.range s.members.length).map s.Q3y)
end Q0b
def Q7t (h:List Int) (row:List (List Int)):List (List Int) :=
 let k:=Q2e h row row.length
 if 0 < k /\ row.getD (k - 1) []=h then row else row.take k ++ [h] ++ row.drop k
namespace Q0b
def Q6d (s:Q0b) (t:Nat):Nat -> List (List Int)
 | 0=>[]
 | i + 1=>Q7t ((Q0c s.members i).take (t + 1)) (s.Q6d t i)
def Q6a (s:Q0b):Nat -> List (List Int)
 | 0=>[]
 | t + 1=>s.Q6a t ++ s.Q6d t s.members.length
def hist (s:Q0b):List (List Int):=s.Q6a s.ships.length
def Y1h (s:Q0b):List (List Int):=s.members.flatMap fun m=>(List.range m.classes.length).map fun t=>m.classes.take (t + 1)
end Q0b
def Q0q (h:List (List Int)) (p:List Rul):Int:=if p.length ≠ h.length then 2 else if (p.map Rul.classes) ≠ h then 11 else 0
def Q1j (s:Q0b) (p:List Rul):Int:=if s.err ≠ 0 then s.err else Q0q s.hist p
def Z1n (p:List Rul) (n:Nat):List Rul:=(List.range p.length).map fun i=>⟨Q0k p i,Q3a p i != (i == n)⟩
def look (p:List Rul) (h:List Int):Bool:=match p.find? (fun r=>r.classes == h) with | some r=>r.close | none=>false
def Q0l (p:List Rul) (l:List Int):List Bool:=(List.range l.length).map fun t=>look p (l.take (t + 1))
namespace Mem
def stepT (m:Mem) (t:Nat) (level:Int) (c:Bool):Int × Int:=if c then (level + ix m.inflow t,level + ix m.inflow t) else (ix m.outside t,0)
def Q2r (m:Mem):Nat -> Int -> List Bool -> List Int
 | _,_,[]=>[]
 | t,level,c :: r=>(m.stepT t level c).1 :: m.Q2r (t + 1) (m.stepT t level c).2 r
def Q7b (m:Mem) (l:List Bool):List Int:=m.Q2r 0 0 l
def keeps (m:Mem) (limit:Int) (l:List Bool):Bool:=!((m.Q7b l).any fun x=>decide (limit < x))
end Mem
def Q2a (s:Q0b) (i:Nat):Mem:=s.members.getD i default
def Q2k (s:Q0b) (p:List Rul):List Int :=
 ((List.range s.members.length).filter fun i=>(Q2a s i).keeps s.limit (Q0l p (Q2a s i).classes)).map Int.ofNat
def Q1u (s:Q0b) (l:List Int):Int:=(l.map fun i=>Q0o s.members i.toNat).sum
def allL (s:Q0b):List Int:=(List.range s.members.length).map Int.ofNat
def Q1z (s:Q0b) (l:List Int):Int:=if 8 < l.length then 5 else
 Q0h ((List.range l.length).map fun i=>if ix l i < 0 ∨ (s.members.length:Int) <= ix l i then 10 else if 0 < i /\ ix l i <= ix l (i - 1) then 11 else 0)
def Z3j (s:Q0b) (p:List Rul):Ratio:=lowest (Q1u s (Q2k s p)) (Q1u s (allL s))
def countB (l:List Bool):Int:=(l.countP id:Nat)
def Q8a (s:Q0b) (l:List Bool):Int:=((List.range l.length).map fun t=>if l.getD t false then ix s.ships t else 0).sum
def Q6m (s:Q0b) (p:List Rul):Int:=(s.members.map fun m=>m.weight * countB (Q0l p m.classes)).sum
def X6r (s:Q0b) (p:List Rul):Int:=(s.members.map fun m=>m.weight * Q8a s (Q0l p m.classes)).sum
def Q5l (n t:Nat):List Bool:=(List.range t).map fun i=>n.testBit (t - 1 - i)
namespace Mem
def Q4y (m:Mem) (limit:Int) (t:Nat):Nat -> Option (List Bool)
 | 0=>none
 | n + 1=>if m.keeps limit (Q5l n t)=true /\ (∀ b,m.Q4y limit t n=some b -> countB (Q5l n t) < countB b) then some (Q5l n t) else m.Q4y limit t n
def X6t (m:Mem) (limit:Int) (t:Nat):Bool:=(List.range (2 ^ t)).any fun n=>m.keeps limit (Q5l n t)
end Mem
def alone (s:Q0b) (i:Nat):Option (List Bool):=(Q2a s i).Q4y s.limit s.ships.length (2 ^ s.ships.length)
def X2n (s:Q0b) (i:Nat):Int:=match alone s i with | some b=>countB b | none=>0
def X0k (s:Q0b) (i:Nat):Option Nat:=(List.range s.ships.length).find? fun t=>!(Q2a s i).X6t s.limit (t + 1)
def Z4f (s:Q0b) (p:List Rul):Int :=
 ((Q2k s p).map fun i=>Q0o s.members i.toNat * (countB (Q0l p (Q0c s.members i.toNat)) - X2n s i.toNat)).sum
def X1y (s:Q0b) (i:Nat):List Nat:=(List.range s.members.length).filter fun k=>Q0c s.members k == Q0c s.members i
def X2i (s:Q0b) (l:List Nat) (n:Nat):Int:=(l.map fun k=>if (Q2a s k).keeps s.limit (Q5l n s.ships.length) then Q0o s.members k else 0).sum
def X4p (s:Q0b) (l:List Nat):Int:=(List.range (2 ^ s.ships.length)).foldl (fun m n=>max m (X2i s l n)) 0
def Q1k (s:Q0b):List Grp :=
 ((List.range s.members.length).filter fun i=>(X1y s i).head? == some i).map fun i=>⟨(X1y s i).map Int.ofNat,X4p s (X1y s i)⟩
def Q4u (s:Q0b):Int:=((Q1k s).map Grp.weight).sum
structure Plan where
 weight:Int
 closings:Int
 delay:Int
 closed:List ByteArray
structure Runner where
 member:Nat
 level:Int
 dry:Bool
def Plan.Q5h (x o:Plan):Bool:=decide (o.weight <= x.weight) && decide (x.closings <= o.closings) && decide (x.delay <= o.delay)
def Q2o (out:List Plan) (x:Plan):List Plan:=if out.any (fun o=>o.Q5h x) then out else (out.filter fun o=>!x.Q5h o) ++ [x]
def Y0i (l:List Plan):List Plan:=l.foldl Q2o []
def both (x y:Plan):Plan:=⟨x.weight + y.weight,x.closings + y.closings,x.delay + y.delay,x.closed ++ y.closed⟩
def together (a b:List Plan):List Plan:=Y0i (a.flatMap fun x=>b.map (both x))
def Q7g (l:List Int):ByteArray:=⟨(l.map fun n=>UInt8.ofNat n.toNat).toArray⟩
def moved (s:Q0b) (t:Nat) (c:Bool) (l:List Runner):List Runner :=
 l.map fun x=>⟨x.member,((Q2a s x.member).stepT t x.level c).2,x.dry && decide (((Q2a s x.member).stepT t x.level c).1 <= s.limit)⟩
def Q6j (s:Q0b) (l:List Runner):Int:=(l.map fun x=>Q0o s.members x.member).sum
def Y6j (s:Q0b) (l:List Runner):Int:=(l.map fun x=>if x.dry then Q0o s.members x.member else 0).sum
def Q8p (s:Q0b) (t c:Nat) (l:List Runner):List Runner:=l.filter fun x=>ix (Q0c s.members x.member) t == (c:Int)
def Y9s (s:Q0b) (t:Nat):List Runner -> ByteArray
 | []=>⟨#[]⟩
 | x :: _=>Q7g ((Q0c s.members x.member).take (t + 1))
def Y3k (s:Q0b) (t:Nat) (l:List Runner) (x:Plan):Plan:=⟨x.weight,x.closings + Q6j s l,x.delay + Q6j s l * ix s.ships t,x.closed ++ [Y9s s t l]⟩
def Q4x (s:Q0b) (t:Nat) (sub:List Runner -> List Plan) (l:List Runner):List Plan :=
 Y0i (sub (moved s t false l) ++ (sub (moved s t true l)).map (Y3k s t l))
def Q2y (s:Q0b) (t:Nat) (sub:List Runner -> List Plan) (l:List Runner):Nat -> List Plan
 | 0=>[⟨0,0,0,[]⟩]
 | c + 1=>if Q8p s t c l=[] then Q2y s t sub l c else together (Q2y s t sub l c) (Q4x s t sub (Q8p s t c l))
def Q2u (s:Q0b):Nat -> List Runner -> List Plan
 | 0,l=>[⟨Y6j s l,0,0,[]⟩]
 | k + 1,l=>Q2y s (s.ships.length - (k + 1)) (Q2u s k) l 10
def Q3o (s:Q0b):List Plan:=Q2u s s.ships.length ((List.range s.members.length).map fun i=>⟨i,0,true⟩)
def J3j (s:Q0b):Int:=(Q3o s).foldl (fun m x=>max m x.weight) 0
def Q2m (need:Int) (b:Option Plan) (x:Plan):Option Plan :=
 if x.weight < need then b else match b with
 | none=>some x
 | some o=>if x.closings < o.closings ∨ x.closings=o.closings /\ x.delay < o.delay then some x else b
def Z0r (s:Q0b) (need:Int):Option Plan:=(Q3o s).foldl (Q2m need) none
def Y2p (s:Q0b) (x:Plan):List Rul:=s.hist.map fun h=>⟨h,x.closed.contains (Q7g h)⟩
def Q0s:Q0b:=⟨30,[5,7],[⟨⟨#[97]⟩,2,[0,0],[20,40],[10,10]⟩,⟨⟨#[98]⟩,1,[0,1],[40,20],[10,25]⟩,⟨⟨#[99]⟩,1,[0,1],[20,20],[10,10]⟩]⟩
def X3t (a b c:Bool):List Rul:=[⟨[0],a⟩,⟨[0,0],b⟩,⟨[0,1],c⟩]
def Q7y:Q0b:=⟨30,[0,0],[⟨⟨#[122]⟩,1,[0,0],[40,40],[20,20]⟩]⟩
end Go.Tw
