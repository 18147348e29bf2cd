/- What values read as: slices as lists, structs as structures; all of it is kept where memory only grows. Trees as data, and what the values of the Go types read as. What the functions of chapter 7 come to, in plain lists and numbers: no program is in sight here. Seasons and policies as data, and what the values of the Go types read as. What the arguments of a law of chapter 5 read as: seasons, policies, lists of numbers, short lists of truth values. -/
import Derived.WalkKit
import Derived.WalkSpells
import Derived.WalkLawsBesides
import Derived.Lib.Hide
import Derived.Below
import Derived.Carry
import Derived.Test.YthnobngcipaljaaGreatDoorProg
import Derived.Deep.Slices
import Derived.Deep.Strs
import Derived.ProofKit
import Derived.SizedLaws
set_option maxRecDepth 1000000
set_option maxHeartbeats 64000000
set_option linter.unusedVariables false
set_option linter.unusedSimpArgs false
set_option linter.constructorNameAsVariable false
namespace Go.Tw
open Go.RowKit
theorem gA {α:Type} (l:List α) (i:Nat):l.toArray[i]?=l[i]?:=by simp
theorem gB {α:Type} (a:α) (l:List α):(a :: l)[0]?=some a:=rfl
theorem gC {α:Type} (a:α) (l:List α) (i:Nat):(a :: l)[i + 1]?=l[i]?:=by simp
def Ext (w w':World):Prop:=Below w.heap.size w w'
theorem Ext.refl (w:World):Ext w w:=Below.refl _ _
theorem Ext.trans {a b c:World} (h:Ext a b) (k:Ext b c):Ext a c:=Below.trans h (Below.mono k h.size)
theorem Ext.drew {a b:World} (h:Ext a b):Ext a b.drew:=Below.drew h
theorem Ext.alloc {a b:World} (h:Ext a b) (o:Obj):Ext a (b.alloc o):=Below.alloc h h.size o
theorem Ext.below {a b:World} (h:Ext a b) {n:Nat} (hn:n <= a.heap.size):Below n a b:=Below.mono h hn
theorem Ext.cell {a b:World} (h:Ext a b) {p:Addr} {v:Value} (hc:a.cell? p=some v):b.cell? p=some v :=
 (Below.cell h (World.block_lt_of_cell? a p hc)).trans hc
theorem Ext.size {a b:World} (h:Ext a b):a.heap.size <= b.heap.size:=Below.size h
def ix (l:List Int) (k:Nat):Int:=l.getD k 0
theorem Q4n {l:List Int} {k:Nat} (h:k < l.length):ix l k=l[k]:=by simp [ix,h]
def Row (w:World) (v:Value) (n sz:Nat) (c:Nat -> Value):Prop :=
 ∃ A cap,v=.slice A n cap /\ n <= 17592186043904 /\ n <= cap /\ ∀ j,j < n * sz -> ∃ b off,A=some ⟨b,off,none⟩ /\ w.cell? ⟨b,off + j,none⟩=some (c j)
theorem Row.ext {w w':World} {v:Value} {n sz:Nat} {c:Nat -> Value} (h:Row w v n sz c) (hx:Ext w w'):Row w' v n sz c:=by
 obtain ⟨A,cap,hv,hn,hcap,hc⟩:=h;exact ⟨A,cap,hv,hn,hcap,fun j hj=>let ⟨b,off,hA,h⟩:=hc j hj; ⟨b,off,hA,hx.cell h⟩⟩
def Rows {α:Type} (sz:Nat) (R:World -> (Nat -> Value) -> α -> Prop) (w:World) (v:Value) (l:List α):Prop :=
 ∃ c,Row w v l.length sz c /\ ∀ j (h:j < l.length),R w (fun i=>c (j * sz + i)) l[j]
theorem Rows.ext {α:Type} {sz:Nat} {R:World -> (Nat -> Value) -> α -> Prop} (hR:∀ w w' c x,Ext w w' -> R w c x -> R w' c x) {w w':World} {v:Value} {l:List α}
    (h:Rows sz R w v l) (hx:Ext w w'):Rows sz R w' v l:=by
 obtain ⟨c,h1,h2⟩:=h;exact ⟨c,h1.ext hx,fun j hj=>hR _ _ _ _ hx (h2 j hj)⟩
theorem Rows.nil {α:Type} (sz:Nat) (R:World -> (Nat -> Value) -> α -> Prop) (w:World):Rows sz R w (.slice none 0 0) [] :=
 ⟨fun _=>undef,⟨none,0,rfl,by simp,by simp,fun j hj=>by simp at hj⟩,fun j hj=>by simp at hj⟩
def Q0e:World -> Value -> List Int -> Prop:=Rows 1 fun _ c x=>c 0=.int .i64 x
def Q0r:World -> Value -> List Bool -> Prop:=Rows 1 fun _ c x=>c 0=.bool x
def Z7r:World -> Value -> List ByteArray -> Prop:=Rows 1 fun _ c x=>c 0=.string x
def Q3q:World -> Value -> List (List Int) -> Prop:=Rows 1 fun w c x=>Q0e w (c 0) x
theorem Q0e.ext {w w':World} {v:Value} {l:List Int} (h:Q0e w v l) (hx:Ext w w'):Q0e w' v l:=Rows.ext (fun _ _ _ _ _ h=>h) h hx
theorem Q0r.ext {w w':World} {v:Value} {l:List Bool} (h:Q0r w v l) (hx:Ext w w'):Q0r w' v l:=Rows.ext (fun _ _ _ _ _ h=>h) h hx
theorem Z7r.ext {w w':World} {v:Value} {l:List ByteArray} (h:Z7r w v l) (hx:Ext w w'):Z7r w' v l:=Rows.ext (fun _ _ _ _ _ h=>h) h hx
theorem Q3q.ext {w w':World} {v:Value} {l:List (List Int)} (h:Q3q w v l) (hx:Ext w w'):Q3q w' v l:=Rows.ext (fun _ _ _ _ hx h=>h.ext hx) h hx
theorem Q0e.opened {w:World} {v:Value} {l:List Int} (h:Q0e w v l) :
    ∃ A cap,v=.slice A l.length cap /\ l.length <= 17592186043904 /\ l.length <= cap /\ ∀ k,k < l.length -> ∃ b off,A=some ⟨b,off,none⟩ /\ w.cell? ⟨b,off + k,none⟩=some (.int .i64 (ix l k)):=by
 obtain ⟨c,⟨A,cap,hv,hn,hcap,hc⟩,h2⟩:=h;refine ⟨A,cap,hv,hn,hcap,fun k hk=>?_⟩;obtain ⟨b,off,hA,h⟩:=hc k (by omega)
 refine ⟨b,off,hA,?_⟩;have:=h2 k hk;simp only [Nat.mul_one,Nat.add_zero] at this;rw [h,this,Q4n hk]
end Go.Tw
namespace Go.Tw
open Go.RowKit
structure Basic where
 name:ByteArray
 chance:Int
structure Y0v where
 name:ByteArray
 chance:Int
 members:List Int
structure Gate where
 kind:ByteArray
 need:Int
 inputs:List Int
structure Tree where
 basics:List Basic
 causes:List Y0v
 gates:List Gate
instance:Inhabited Basic:=⟨⟨⟨#[]⟩,0⟩⟩
instance:Inhabited Y0v:=⟨⟨⟨#[]⟩,0,[]⟩⟩
instance:Inhabited Gate:=⟨⟨⟨#[]⟩,0,[]⟩⟩
def Short (s:ByteArray):Prop:=s.size <= 140737488355328
def Y6h (_:World) (c:Nat -> Value) (x:Basic):Prop:=c 0=.string x.name /\ c 1=.int .i64 x.chance /\ Short x.name
def Y5s (w:World) (c:Nat -> Value) (x:Y0v):Prop:=c 0=.string x.name /\ c 1=.int .i64 x.chance /\ Q0e w (c 2) x.members /\ Short x.name
def Z6o (w:World) (c:Nat -> Value) (x:Gate):Prop:=c 0=.string x.kind /\ c 1=.int .i64 x.need /\ Q0e w (c 2) x.inputs /\ Short x.kind
theorem Y6h.ext (w w':World) (c:Nat -> Value) (x:Basic) (_:Ext w w') (h:Y6h w c x):Y6h w' c x:=h
theorem Y5s.ext (w w':World) (c:Nat -> Value) (x:Y0v) (hx:Ext w w') (h:Y5s w c x):Y5s w' c x:=⟨h.1,h.2.1,h.2.2.1.ext hx,h.2.2.2⟩
theorem Z6o.ext (w w':World) (c:Nat -> Value) (x:Gate) (hx:Ext w w') (h:Z6o w c x):Z6o w' c x:=⟨h.1,h.2.1,h.2.2.1.ext hx,h.2.2.2⟩
def X0n:World -> Value -> List Basic -> Prop:=Rows 2 Y6h
def X0u:World -> Value -> List Y0v -> Prop:=Rows 3 Y5s
def X4o:World -> Value -> List Gate -> Prop:=Rows 3 Z6o
theorem X0n.ext {w w':World} {v:Value} {l:List Basic} (h:X0n w v l) (hx:Ext w w'):X0n w' v l:=Rows.ext Y6h.ext h hx
theorem X0u.ext {w w':World} {v:Value} {l:List Y0v} (h:X0u w v l) (hx:Ext w w'):X0u w' v l:=Rows.ext Y5s.ext h hx
theorem X4o.ext {w w':World} {v:Value} {l:List Gate} (h:X4o w v l) (hx:Ext w w'):X4o w' v l:=Rows.ext Z6o.ext h hx
structure Y3p (w:World) (a b c:Value) (t:Tree):Prop where
 basics:X0n w a t.basics
 causes:X0u w b t.causes
 gates:X4o w c t.gates
theorem Y3p.ext {w w':World} {a b c:Value} {t:Tree} (h:Y3p w a b c t) (hx:Ext w w'):Y3p w' a b c t:=⟨h.basics.ext hx,h.causes.ext hx,h.gates.ext hx⟩
def IsTree (w:World) (v:Value) (t:Tree):Prop:=∃ a b c,v=.agg #[a,b,c] /\ Y3p w a b c t
theorem IsTree.ext {w w':World} {v:Value} {t:Tree} (h:IsTree w v t) (hx:Ext w w'):IsTree w' v t:=let ⟨a,b,c,hv,h3⟩:=h; ⟨a,b,c,hv,h3.ext hx⟩
def bName (l:List Basic) (k:Nat):ByteArray:=(l.getD k default).name
def Z0a (l:List Basic) (k:Nat):Int:=(l.getD k default).chance
def cName (l:List Y0v) (k:Nat):ByteArray:=(l.getD k default).name
def Y9r (l:List Y0v) (k:Nat):Int:=(l.getD k default).chance
def Q8r (l:List Y0v) (k:Nat):List Int:=(l.getD k default).members
def Z0p (l:List Gate) (k:Nat):ByteArray:=(l.getD k default).kind
def Z9c (l:List Gate) (k:Nat):Int:=(l.getD k default).need
def Q7k (l:List Gate) (k:Nat):List Int:=(l.getD k default).inputs
theorem Q1b {k:IntKind} {a b:Int} (h:a=b):Ending.returned (.int k a)=.returned (.int k b):=by rw [h]
theorem Q0w {a b:Bool} (h:a=b):Ending.returned (.bool a)=.returned (.bool b):=by rw [h]
def has (l:List Int) (x:Int):Bool:=l.contains x
theorem Z2f (y:Int) (l:List Int) (x:Int):has (y :: l) x=(y == x || has l x):=by
 unfold has; rw [List.contains_cons,Bool.beq_comm]
theorem J3x {l:List Int} {x:Int}:has l x=true ↔ x ∈ l:=by simp [has]
theorem Q0t {α:Type} {l:List α} {k:Nat} (d:α) (h:k < l.length):l.getD k d=l[k]:=by simp [h]
theorem X0n.opened {w:World} {v:Value} {l:List Basic} (h:X0n w v l) :
    ∃ A cap,v=.slice A l.length cap /\ l.length <= 17592186043904 /\ l.length <= cap /\ ∀ k,k < l.length -> ∃ b off,A=some ⟨b,off,none⟩ /\ b < w.heap.size /\
     w.cell? ⟨b,off + k * 2,none⟩=some (.string (bName l k)) /\ w.cell? ⟨b,off + k * 2 + 1,none⟩=some (.int .i64 (Z0a l k)) /\ Short (bName l k):=by
 obtain ⟨c,⟨A,cap,hv,hn,hcap,hc⟩,h2⟩:=h;refine ⟨A,cap,hv,hn,hcap,fun k hk=>?_⟩;obtain ⟨b,off,hA,h0⟩:=hc (k * 2) (by omega)
 obtain ⟨b',off',hA',h1⟩:=hc (k * 2 + 1) (by omega)
 rw [hA] at hA'; cases hA';obtain ⟨e0,e1,e2⟩:=h2 k hk;simp only [Nat.add_zero] at e0 e1;refine ⟨b,off,hA,World.block_lt_of_cell? w _ h0,?_,?_,?_⟩
 . rw [h0,e0,bName,Q0t _ hk]
 . rw [Nat.add_assoc,h1,e1,Z0a,Q0t _ hk]
 . rw [bName,Q0t _ hk]; exact e2
theorem X0u.opened {w:World} {v:Value} {l:List Y0v} (h:X0u w v l) :
    ∃ A cap,v=.slice A l.length cap /\ l.length <= 17592186043904 /\ l.length <= cap /\ ∀ k,k < l.length -> ∃ b off m,A=some ⟨b,off,none⟩ /\ b < w.heap.size /\
     w.cell? ⟨b,off + k * 3,none⟩=some (.string (cName l k)) /\ w.cell? ⟨b,off + k * 3 + 1,none⟩=some (.int .i64 (Y9r l k)) /\
     w.cell? ⟨b,off + k * 3 + 2,none⟩=some m /\ Q0e w m (Q8r l k) /\ Short (cName l k):=by
 obtain ⟨c,⟨A,cap,hv,hn,hcap,hc⟩,h2⟩:=h;refine ⟨A,cap,hv,hn,hcap,fun k hk=>?_⟩;obtain ⟨b,off,hA,h0⟩:=hc (k * 3) (by omega)
 obtain ⟨b',off',hA',h1⟩:=hc (k * 3 + 1) (by omega)
 rw [hA] at hA'; cases hA';obtain ⟨b',off',hA',h3⟩:=hc (k * 3 + 2) (by omega)
 rw [hA] at hA'; cases hA';obtain ⟨e0,e1,e2,e3⟩:=h2 k hk;simp only [Nat.add_zero] at e0 e1;refine ⟨b,off,c (k * 3 + 2),hA,World.block_lt_of_cell? w _ h0,?_,?_,?_,?_,?_⟩
 . rw [h0,e0,cName,Q0t _ hk]
 . rw [Nat.add_assoc,h1,e1,Y9r,Q0t _ hk]
 . rw [Nat.add_assoc,h3]
 . rw [Q8r,Q0t _ hk]; exact e2
 . rw [cName,Q0t _ hk]; exact e3
theorem X4o.opened {w:World} {v:Value} {l:List Gate} (h:X4o w v l) :
    ∃ A cap,v=.slice A l.length cap /\ l.length <= 17592186043904 /\ l.length <= cap /\ ∀ k,k < l.length -> ∃ b off m,A=some ⟨b,off,none⟩ /\ b < w.heap.size /\
     w.cell? ⟨b,off + k * 3,none⟩=some (.string (Z0p l k)) /\ w.cell? ⟨b,off + k * 3 + 1,none⟩=some (.int .i64 (Z9c l k)) /\
     w.cell? ⟨b,off + k * 3 + 2,none⟩=some m /\ Q0e w m (Q7k l k) /\ Short (Z0p l k):=by
 obtain ⟨c,⟨A,cap,hv,hn,hcap,hc⟩,h2⟩:=h;refine ⟨A,cap,hv,hn,hcap,fun k hk=>?_⟩;obtain ⟨b,off,hA,h0⟩:=hc (k * 3) (by omega)
 obtain ⟨b',off',hA',h1⟩:=hc (k * 3 + 1) (by omega)
 rw [hA] at hA'; cases hA';obtain ⟨b',off',hA',h3⟩:=hc (k * 3 + 2) (by omega)
 rw [hA] at hA'; cases hA';obtain ⟨e0,e1,e2,e3⟩:=h2 k hk;simp only [Nat.add_zero] at e0 e1;refine ⟨b,off,c (k * 3 + 2),hA,World.block_lt_of_cell? w _ h0,?_,?_,?_,?_,?_⟩
 . rw [h0,e0,Z0p,Q0t _ hk]
 . rw [Nat.add_assoc,h1,e1,Z9c,Q0t _ hk]
 . rw [Nat.add_assoc,h3]
 . rw [Q7k,Q0t _ hk]; exact e2
 . rw [Z0p,Q0t _ hk]; exact e3
def bx (l:List Bool) (k:Nat):Bool:=l.getD k false
theorem Q0r.opened {w:World} {v:Value} {l:List Bool} (h:Q0r w v l) :
    ∃ A cap,v=.slice A l.length cap /\ l.length <= 17592186043904 /\ l.length <= cap /\ ∀ k,k < l.length -> ∃ b off,A=some ⟨b,off,none⟩ /\ b < w.heap.size /\ w.cell? ⟨b,off + k,none⟩=some (.bool (bx l k)):=by
 obtain ⟨c,⟨A,cap,hv,hn,hcap,hc⟩,h2⟩:=h;refine ⟨A,cap,hv,hn,hcap,fun k hk=>?_⟩;obtain ⟨b,off,hA,h⟩:=hc k (by omega)
 refine ⟨b,off,hA,World.block_lt_of_cell? w _ h,?_⟩;have:=h2 k hk;simp only [Nat.mul_one,Nat.add_zero] at this;rw [h,this,bx,Q0t _ hk]
theorem str_eq {a b:ByteArray} (h:a=b):(a == b)=true:=by subst h; obtain ⟨⟨d⟩⟩:=a; show (Array.mk d == Array.mk d)=true; simp
theorem X2t {a b:ByteArray} (h:¬ a=b):(a == b)=false:=by
 obtain ⟨a⟩:=a; obtain ⟨b⟩:=b;show (a == b)=false;rw [beq_eq_false_iff_ne];exact fun e=>h (by rw [e])
theorem Ext.cells {a b:World} (h:Ext a b):∀ k o,k < a.heap.size -> b.cell? ⟨k,o,none⟩=a.cell? ⟨k,o,none⟩:=fun _ _ hk=>Below.cell (p:=⟨_,_,none⟩) h hk
end Go.Tw
namespace Go.Tw
def Q0l:List Int -> Int
 | []=>0
 | x :: l=>if x=0 then Q0l l else x
def Q0h (x a b:Int):Int:=if x < a ∨ b < x then 3 else 0
def Z8r:List Int -> Bool
 | x :: y :: l=>decide (x < y) && Z8r (y :: l)
 | _=>true
def J7n (l:List Int) (n:Int):Bool:=l.any fun x=>decide (x < 0 ∨ n <= x)
def Z2w (l:List Int) (n:Int):Int:=if J7n l n then 10 else if Z8r l then 0 else 11
def X5i (l:List Int) (n:Int):Int:=if l=[] then 12 else Z2w l n
def Q1y (c:UInt8):Bool:=(decide (97 <= c) && decide (c <= 122)) || (decide (65 <= c) && decide (c <= 90))
def Q4k (c:UInt8):Bool:=c == 95 || (decide (48 <= c) && decide (c <= 57))
def nameB (s:ByteArray):Bool:=match s.data.toList with
 | []=>false
 | c :: l=>Q1y c && l.all (fun c=>Q1y c || Q4k c) && decide (l.length < 24)
def J4f (s:ByteArray):Int:=if nameB s then 0 else 8
def J7q:ByteArray:=⟨#[97,110,100]⟩
def sOr:ByteArray:=⟨#[111,114]⟩
def J5w:ByteArray:=⟨#[118,111,116,101]⟩
namespace Tree
def size (t:Tree):Nat:=t.basics.length + t.causes.length
def nodes (t:Tree):Nat:=t.basics.length + t.gates.length
def nameAt (t:Tree) (i:Nat):ByteArray:=if i < t.basics.length then bName t.basics i else cName t.causes (i - t.basics.length)
def X3b (t:Tree) (i:Nat):Int:=if i < t.basics.length then Z0a t.basics i else Y9r t.causes (i - t.basics.length)
def J5j (t:Tree) (i:Nat):Bool:=(List.range i).any fun k=>t.nameAt k == t.nameAt i
def X7l (t:Tree) (i:Nat):Int :=
 Q0l [J4f (t.nameAt i),Q0h (t.X3b i) 0 16,if t.J5j i then 9 else 0,if i < t.basics.length then 0 else X5i (Q8r t.causes (i - t.basics.length)) t.basics.length]
end Tree
def J7i (s:ByteArray):Bool:=s == J7q || s == sOr || s == J5w
def J2k (kind:ByteArray) (need:Int) (n:Nat):Int:=if kind=J5w then Q0h need 1 n else Q0h need 0 0
def Z7e (kind:ByteArray) (need:Int) (inputs:List Int) (nodes:Int):Int :=
 Q0l [if J7i kind then 0 else 13,if 12 < inputs.length then 5 else 0,X5i inputs nodes,J2k kind need inputs.length]
namespace Tree
def X8m (t:Tree) (i:Nat):Int:=Z7e (Z0p t.gates i) (Z9c t.gates i) (Q7k t.gates i) ((t.basics.length:Int) + i)
def err (t:Tree):Int :=
 if t.basics.length=0 ∨ t.gates.length=0 then 12 else if 12 < t.size ∨ 32 < t.gates.length then 5 else
 Q0l ((List.range t.size).map t.X7l ++ (List.range t.gates.length).map t.X8m)
def J5b (t:Tree) (ev:Nat -> Bool) (i:Nat):Bool:=ev i || (List.range t.causes.length).any fun k=>ev (t.basics.length + k) && has (Q8r t.causes k) i
end Tree
def J2c (kind:ByteArray) (need:Int) (n:Nat):Int:=if kind=J7q then n else if kind=sOr then 1 else need
def failing (out:List Bool) (inputs:List Int):Nat:=inputs.countP fun x=>bx out x.toNat
def J4y (out:List Bool) (kind:ByteArray) (need:Int) (inputs:List Int):Bool:=decide (J2c kind need inputs.length <= failing out inputs)
namespace Tree
def Z9l (t:Tree) (ev:Nat -> Bool):List Bool:=(List.range t.basics.length).map (t.J5b ev)
def Q9o (t:Tree) (ev:Nat -> Bool):Nat -> List Bool
 | 0=>t.Z9l ev
 | n + 1=>t.Q9o ev n ++ [J4y (t.Q9o ev n) (Z0p t.gates n) (Z9c t.gates n) (Q7k t.gates n)]
def states (t:Tree) (ev:Nat -> Bool):List Bool:=t.Q9o ev t.gates.length
def fails (t:Tree) (ev:Nat -> Bool):Bool:=bx (t.states ev) (t.nodes - 1)
end Tree
def evL (l:List Int) (i:Nat):Bool:=has l i
def evN (s:Nat) (i:Nat):Bool:=s.testBit i
def bitsOf (s:Nat):List Int:=((List.range 16).filter (s.testBit ·)).map Int.ofNat
def others (n:Nat) (l:List Int):List Int:=((List.range n).map Int.ofNat).filter fun x=>!has l x
def without (l:List Int) (k:Nat):List Int:=l.take k ++ l.drop (k + 1)
namespace Tree
def J3y (t:Tree):List Int:=(List.range t.size).map t.X3b
def setB (t:Tree) (l:List Int) (paths:Bool):Bool:=if paths then !t.fails (evL (others t.size l)) else t.fails (evL l)
def J1s (t:Tree) (l:List Int) (paths:Bool):Bool:=t.setB l paths && !(List.range l.length).any fun k=>t.setB (without l k) paths
end Tree
def Q5b:List Int -> List Int -> Bool
 | x :: l,y :: m=>if x=y then Q5b l m else decide (x < y)
 | _,_=>false
def Q2a (a b:List Int):Bool:=if a.length=b.length then Q5b a b else decide (a.length < b.length)
def Q1v (l:List Int) (out:List (List Int)):Nat -> Nat
 | 0=>0
 | n + 1=>if Q2a l (out.getD n []) then Q1v l out n else n + 1
def Z5q (l:List Int) (out:List (List Int)):List (List Int):=out.take (Q1v l out out.length) ++ [l] ++ out.drop (Q1v l out out.length)
namespace Tree
def sets (t:Tree) (paths:Bool):List (List Int):=(List.range (2 ^ t.size)).foldl (fun out s=>if t.J1s (bitsOf s) paths then Z5q (bitsOf s) out else out) []
def single (t:Tree):List Int:=((List.range t.size).map Int.ofNat).filter fun x=>t.fails (evL [x])
end Tree
namespace Tree
end Tree
def factor (c:List Int) (s j:Nat):Int:=if s.testBit j then ix c j else 16 - ix c j
def J2a (c:List Int) (s:Nat):Nat -> Int
 | 0=>1
 | j + 1=>J2a c s j * factor c s j
def partOf (c:List Int) (s:Nat):Int:=J2a c s c.length
namespace Tree
def Q3w (t:Tree) (c:List Int):Nat -> Int
 | 0=>0
 | s + 1=>t.Q3w c s + if t.fails (evN s) then partOf c s else 0
def weight (t:Tree) (c:List Int):Int:=t.Q3w c (2 ^ t.size)
end Tree
structure Ratio where
 num:Int
 den:Int
deriving DecidableEq
def lowest (a b:Int):Ratio:=⟨a / (Int.gcd a b:Int),b / (Int.gcd a b:Int)⟩
end Go.Tw
namespace Go.Tw
open Go.RowKit
structure Mem where
 name:ByteArray
 weight:Int
 classes:List Int
 outside:List Int
 inflow:List Int
structure Q0b where
 limit:Int
 ships:List Int
 members:List Mem
structure Rul where
 classes:List Int
 close:Bool
structure Grp where
 members:List Int
 weight:Int
instance:Inhabited Mem:=⟨⟨⟨#[]⟩,0,[],[],[]⟩⟩
instance:Inhabited Rul:=⟨⟨[],false⟩⟩
instance:Inhabited Grp:=⟨⟨[],0⟩⟩
def J5h (w:World) (c:Nat -> Value) (x:Mem):Prop:=c 0=.string x.name /\ c 1=.int .i64 x.weight /\ Q0e w (c 2) x.classes /\ Q0e w (c 3) x.outside /\ Q0e w (c 4) x.inflow /\ Short x.name
def J4v (w:World) (c:Nat -> Value) (x:Rul):Prop:=Q0e w (c 0) x.classes /\ c 1=.bool x.close
def J5a (w:World) (c:Nat -> Value) (x:Grp):Prop:=Q0e w (c 0) x.members /\ c 1=.int .i64 x.weight
theorem J5h.ext (w w':World) (c:Nat -> Value) (x:Mem) (hx:Ext w w') (h:J5h w c x):J5h w' c x:=⟨h.1,h.2.1,h.2.2.1.ext hx,h.2.2.2.1.ext hx,h.2.2.2.2.1.ext hx,h.2.2.2.2.2⟩
theorem J4v.ext (w w':World) (c:Nat -> Value) (x:Rul) (hx:Ext w w') (h:J4v w c x):J4v w' c x:=⟨h.1.ext hx,h.2⟩
theorem J5a.ext (w w':World) (c:Nat -> Value) (x:Grp) (hx:Ext w w') (h:J5a w c x):J5a w' c x:=⟨h.1.ext hx,h.2⟩
def X0b:World -> Value -> List Mem -> Prop:=Rows 5 J5h
def Q3u:World -> Value -> List Rul -> Prop:=Rows 2 J4v
def Q5j:World -> Value -> List Grp -> Prop:=Rows 2 J5a
theorem X0b.ext {w w':World} {v:Value} {l:List Mem} (h:X0b w v l) (hx:Ext w w'):X0b w' v l:=Rows.ext J5h.ext h hx
theorem Q3u.ext {w w':World} {v:Value} {l:List Rul} (h:Q3u w v l) (hx:Ext w w'):Q3u w' v l:=Rows.ext J4v.ext h hx
theorem Q5j.ext {w w':World} {v:Value} {l:List Grp} (h:Q5j w v l) (hx:Ext w w'):Q5j w' v l:=Rows.ext J5a.ext h hx
structure Q7y (w:World) (a b:Value) (s:Q0b):Prop where
 ships:Q0e w a s.ships
 members:X0b w b s.members
theorem Q7y.ext {w w':World} {a b:Value} {s:Q0b} (h:Q7y w a b s) (hx:Ext w w'):Q7y w' a b s:=⟨h.ships.ext hx,h.members.ext hx⟩
def Q0f (w:World) (v:Value) (s:Q0b):Prop:=∃ a b,v=.agg #[.int .i64 s.limit,a,b] /\ Q7y w a b s
theorem Q0f.ext {w w':World} {v:Value} {s:Q0b} (h:Q0f w v s) (hx:Ext w w'):Q0f w' v s:=let ⟨a,b,hv,h2⟩:=h; ⟨a,b,hv,h2.ext hx⟩
def Q0j (w:World) (v:Value) (p:List Rul):Prop:=∃ a,v=.agg #[a] /\ Q3u w a p
theorem Q0j.ext {w w':World} {v:Value} {p:List Rul} (h:Q0j w v p) (hx:Ext w w'):Q0j w' v p:=let ⟨a,hv,h2⟩:=h; ⟨a,hv,h2.ext hx⟩
def Q1o (l:List Mem) (k:Nat):ByteArray:=(l.getD k default).name
def Q0k (l:List Mem) (k:Nat):Int:=(l.getD k default).weight
def Q0c (l:List Mem) (k:Nat):List Int:=(l.getD k default).classes
def Q0z (l:List Mem) (k:Nat):List Int:=(l.getD k default).outside
def Q1f (l:List Mem) (k:Nat):List Int:=(l.getD k default).inflow
def Q0n (l:List Rul) (k:Nat):List Int:=(l.getD k default).classes
def Q3v (l:List Rul) (k:Nat):Bool:=(l.getD k default).close
def Q6g (l:List Grp) (k:Nat):List Int:=(l.getD k default).members
def Q9e (l:List Grp) (k:Nat):Int:=(l.getD k default).weight
theorem X0b.opened {w:World} {v:Value} {l:List Mem} (h:X0b w v l) :
    ∃ A cap,v=.slice A l.length cap /\ l.length <= 17592186043904 /\ l.length <= cap /\ ∀ k,k < l.length -> ∃ b off x y z,A=some ⟨b,off,none⟩ /\ b < w.heap.size /\
     w.cell? ⟨b,off + k * 5,none⟩=some (.string (Q1o l k)) /\ w.cell? ⟨b,off + k * 5 + 1,none⟩=some (.int .i64 (Q0k l k)) /\
     w.cell? ⟨b,off + k * 5 + 2,none⟩=some x /\ w.cell? ⟨b,off + k * 5 + 3,none⟩=some y /\ w.cell? ⟨b,off + k * 5 + 4,none⟩=some z /\
     Q0e w x (Q0c l k) /\ Q0e w y (Q0z l k) /\ Q0e w z (Q1f l k) /\ Short (Q1o l k):=by
 obtain ⟨c,⟨A,cap,hv,hn,hcap,hc⟩,h2⟩:=h;refine ⟨A,cap,hv,hn,hcap,fun k hk=>?_⟩;obtain ⟨b,off,hA,h0⟩:=hc (k * 5) (by omega)
 obtain ⟨b',off',hA',h1⟩:=hc (k * 5 + 1) (by omega)
 rw [hA] at hA'; cases hA';obtain ⟨b',off',hA',h3⟩:=hc (k * 5 + 2) (by omega)
 rw [hA] at hA'; cases hA';obtain ⟨b',off',hA',h4⟩:=hc (k * 5 + 3) (by omega)
 rw [hA] at hA'; cases hA';obtain ⟨b',off',hA',h5⟩:=hc (k * 5 + 4) (by omega)
 rw [hA] at hA'; cases hA';obtain ⟨e0,e1,e2,e3,e4,e5⟩:=h2 k hk;simp only [Nat.add_zero] at e0 e1;refine ⟨b,off,c (k * 5 + 2),c (k * 5 + 3),c (k * 5 + 4),hA,World.block_lt_of_cell? w _ h0,?_,?_,?_,?_,?_,?_,?_,?_,?_⟩
 . rw [h0,e0,Q1o,Q0t _ hk]
 . rw [Nat.add_assoc,h1,e1,Q0k,Q0t _ hk]
 . rw [Nat.add_assoc,h3]
 . rw [Nat.add_assoc,h4]
 . rw [Nat.add_assoc,h5]
 . rw [Q0c,Q0t _ hk]; exact e2
 . rw [Q0z,Q0t _ hk]; exact e3
 . rw [Q1f,Q0t _ hk]; exact e4
 . rw [Q1o,Q0t _ hk]; exact e5
theorem Q3u.opened {w:World} {v:Value} {l:List Rul} (h:Q3u w v l) :
    ∃ A cap,v=.slice A l.length cap /\ l.length <= 17592186043904 /\ l.length <= cap /\ ∀ k,k < l.length -> ∃ b off x,A=some ⟨b,off,none⟩ /\ b < w.heap.size /\
     w.cell? ⟨b,off + k * 2,none⟩=some x /\ w.cell? ⟨b,off + k * 2 + 1,none⟩=some (.bool (Q3v l k)) /\ Q0e w x (Q0n l k):=by
 obtain ⟨c,⟨A,cap,hv,hn,hcap,hc⟩,h2⟩:=h;refine ⟨A,cap,hv,hn,hcap,fun k hk=>?_⟩;obtain ⟨b,off,hA,h0⟩:=hc (k * 2) (by omega)
 obtain ⟨b',off',hA',h1⟩:=hc (k * 2 + 1) (by omega)
 rw [hA] at hA'; cases hA';obtain ⟨e0,e1⟩:=h2 k hk;simp only [Nat.add_zero] at e0 e1;refine ⟨b,off,c (k * 2),hA,World.block_lt_of_cell? w _ h0,?_,?_,?_⟩
 . rw [h0]
 . rw [Nat.add_assoc,h1,e1,Q3v,Q0t _ hk]
 . rw [Q0n,Q0t _ hk]; exact e0
theorem Q5j.opened {w:World} {v:Value} {l:List Grp} (h:Q5j w v l) :
    ∃ A cap,v=.slice A l.length cap /\ l.length <= 17592186043904 /\ l.length <= cap /\ ∀ k,k < l.length -> ∃ b off x,A=some ⟨b,off,none⟩ /\ b < w.heap.size /\
     w.cell? ⟨b,off + k * 2,none⟩=some x /\ w.cell? ⟨b,off + k * 2 + 1,none⟩=some (.int .i64 (Q9e l k)) /\ Q0e w x (Q6g l k):=by
 obtain ⟨c,⟨A,cap,hv,hn,hcap,hc⟩,h2⟩:=h;refine ⟨A,cap,hv,hn,hcap,fun k hk=>?_⟩;obtain ⟨b,off,hA,h0⟩:=hc (k * 2) (by omega)
 obtain ⟨b',off',hA',h1⟩:=hc (k * 2 + 1) (by omega)
 rw [hA] at hA'; cases hA';obtain ⟨e0,e1⟩:=h2 k hk;simp only [Nat.add_zero] at e0 e1;refine ⟨b,off,c (k * 2),hA,World.block_lt_of_cell? w _ h0,?_,?_,?_⟩
 . rw [h0]
 . rw [Nat.add_assoc,h1,e1,Q9e,Q0t _ hk]
 . rw [Q6g,Q0t _ hk]; exact e0
end Go.Tw
namespace Go.Proofs
open Go.RowKit Go.Tw Go.ChangeShapes Go.WideShapes Go.Deep
section
variable {H:Type} {enc:TypeId × Value -> H} {W:World}
def X1d (t:TypeId) (d:DataW H):Prop:=∀ x ∈ d.weights Tryz.prog t,x <= 140737488351232
theorem Y2r (b off n:Nat):(⟨b,off,none⟩:Addr).add n=⟨b,off + n,none⟩:=by
 unfold Addr.add
 split
 . simp_all
 . rfl
theorem Q9g {α:Type} [Inhabited α] {t e:TypeId} {k bts fuel:Nat} {v:Value} {y:DataW H × List MemPlace} {R:World -> (Nat -> Value) -> α -> Prop} (ht:Tryz.prog.underlying t=some (.slice e)) (hc:Tryz.prog.cellsOf e=k) (hk:0 < k) (hb:Tryz.prog.bytesOf e=bts) (h8:8 <= bts)
    (hel:∀ (cs:List Value) (y:DataW H × List MemPlace) (n:Nat),cs.length=k -> DataW.trod enc Tryz.prog W 0 (fun _=>true) true n e cs=some y -> X1d e y.1 -> ∃ x:α,R W (fun i=>cs.getD i undef) x)
    (hloc:∀ (w:World) (c c':Nat -> Value) (x:α),(∀ i,i < k -> c i=c' i) -> R w c x -> R w c' x)
    (h:DataW.trod enc Tryz.prog W 0 (fun _=>true) true fuel t [v]=some y) (hw:X1d t y.1):∃ l:List α,Go.Tw.Rows k R W v l:=by
 rcases open_slice ht h with ⟨hcs,_⟩ | ⟨a,len,cap,m,n,D,Pl,hcs,_,hlc,_,hm,rfl,hx⟩
 . obtain rfl:v=.slice none 0 0:=by simpa using hcs
   exact ⟨[],Go.Tw.Rows.nil _ _ _⟩
 . obtain rfl:v=.slice (some a) len cap:=by simpa using hcs
   simp only [if_true] at hm;subst hm;rw [hc] at hx;have hhead:(len + (m - len)) * bts <= 140737488351232:=by
    have:=hw ((((List.range len).map D).length + ((List.range (m - len)).map fun j=>D (len + j)).length) * Tryz.prog.bytesOf e) (by simp [DataW.weights,ht])
    simpa [hb] using this
   have hm8:m * 8 <= 140737488351232:=by
    have h1:m=len + (m - len):=by omega
    rw [<- h1] at hhead;exact Nat.le_trans (Nat.mul_le_mul_left m h8) hhead
   have hfit:∀ i,i < len -> X1d e (D i):=by
    intro i hi x hx';refine hw x ?_;have e1:∀ (l:List (DataW H)) d,d ∈ l -> x ∈ d.weights Tryz.prog e -> x ∈ DataW.weightsAll Tryz.prog e l:=by
     intro l
     induction l with
     | nil=>intro d hd; cases hd
     | cons d0 l ih =>
       intro d hd hxx;rw [DataW.weightsAll]
       rcases List.mem_cons.1 hd with rfl | hd
       . exact List.mem_append_left _ hxx
       . exact List.mem_append_right _ (ih d hd hxx)
    simp only [DataW.weights,ht];refine List.mem_cons_of_mem _ (List.mem_append_left _ (e1 _ (D i) ?_ hx'));exact List.mem_map.2 ⟨i,List.mem_range.2 hi,rfl⟩
   obtain ⟨f,hf⟩:=choose_lt (α:=List Value) (n:=len) (p:=fun i cs=>(∀ r,r < k -> W.cell? ((a.add (i * k)).add r)=cs[r]?) /\ cs.length=k /\ ∃ x:α,R W (fun j=>cs.getD j undef) x) (fun i hi=>by
    obtain ⟨cs,h1,h2⟩:=hx i (by omega)
    obtain ⟨_,h3,h4⟩:=World.cells?_some h1;exact ⟨cs,h4,h3,hel cs _ n h3 h2 (hfit i hi)⟩)
   obtain ⟨g,hg⟩:=choose_lt (α:=α) (n:=len) (p:=fun i x=>R W (fun j=>(f i).getD j undef) x) (fun i hi=>(hf i hi).2.2)
   have hR:∀ i,i < len -> R W (fun j=>(f ((i * k + j) / k)).getD ((i * k + j) % k) undef) (g i):=fun i hi=>hloc W _ _ _ (fun j hj=>by
    have e1:(i * k + j) / k=i:=by rw [Nat.mul_comm,Nat.mul_add_div hk,Nat.div_eq_of_lt hj,Nat.add_zero]
    have e2:(i * k + j) % k=j:=by rw [Nat.mul_comm,Nat.mul_add_mod,Nat.mod_eq_of_lt hj]
    rw [e1,e2]) (hg i hi)
   refine ⟨(List.range len).map g,fun j=>(f (j / k)).getD (j % k) undef,⟨some a,m,by simp,by simp; omega,by simpa using hlc,fun j hj=>?_⟩,fun j hj=>?_⟩
   . have hj':j < len * k:=by simpa using hj
     have hq:j / k < len:=(Nat.div_lt_iff_lt_mul hk).2 hj';have hr:j % k < k:=Nat.mod_lt _ hk;obtain ⟨h1,h2,_⟩:=hf (j / k) hq;have h3:=h1 (j % k) hr;rw [List.getElem?_eq_getElem (by omega)] at h3
     have hsp:a.spot=none:=by
      obtain ⟨g1,g2,_⟩:=hf 0 (Nat.lt_of_le_of_lt (Nat.zero_le _) hq);have g3:=g1 0 hk;rw [List.getElem?_eq_getElem (by omega)] at g3
      have:=World.cell?_spot g3
      simpa [Addr.add] using this
     obtain ⟨b,off,spot⟩:=a;obtain rfl:spot=none:=hsp;refine ⟨b,off,rfl,?_⟩;have e:(((⟨b,off,none⟩:Addr).add (j / k * k)).add (j % k))=⟨b,off + j,none⟩:=by
      rw [Y2r,Y2r,Nat.add_assoc];have:j / k * k + j % k=j:=by rw [Nat.mul_comm]; exact Nat.div_add_mod j k
      rw [this]
     rw [e] at h3;rw [h3];simp [h2,hr]
   . have hj':j < len:=by simpa using hj
     have:=hR j hj'
     simpa using this
theorem Tryz.c3:Tryz.prog.cellsOf 3=1:=by kernel_rfl
theorem Tryz.b3:Tryz.prog.bytesOf 3=8:=by kernel_rfl
theorem Q4z {fuel:Nat} {v:Value} {y:DataW H × List MemPlace} (h:DataW.trod enc Tryz.prog W 0 (fun _=>true) true fuel 22 [v]=some y) (hw:X1d 22 y.1):∃ l,Q0e W v l :=
 Q9g (α:=Int) Tryz.underlying22 Tryz.c3 (by decide) Tryz.b3 (by decide) (fun cs y n hl h _=>by
  obtain ⟨z,rfl,_,_⟩:=DataW.trod_int Tryz.underlying3 h;exact ⟨z,rfl⟩) (fun _ c c' x hc h=>by rw [<- hc 0 (by decide)]; exact h) h hw
theorem str_of_trod {fuel:Nat} {v:Value} {y:DataW H × List MemPlace} (h:DataW.trod enc Tryz.prog W 0 (fun _=>true) true fuel 9 [v]=some y) (hw:X1d 9 y.1):∃ s,v=.string s /\ Short s:=by
 obtain ⟨s,h1,rfl,_⟩:=DataW.trod_string Tryz.underlying9 h;refine ⟨s,by simpa using h1,?_⟩
 have:=hw s.data.toList.length (by simp [DataW.weights])
 have e:s.data.toList.length=s.size:=Array.length_toList;unfold Short;omega
theorem int_of_trod {fuel:Nat} {v:Value} {y:DataW H × List MemPlace} (h:DataW.trod enc Tryz.prog W 0 (fun _=>true) true fuel 3 [v]=some y):∃ z,v=.int .i64 z:=by
 obtain ⟨z,h1,_,_⟩:=DataW.trod_int Tryz.underlying3 h;exact ⟨z,by simpa using h1⟩
theorem Q3e {t:TypeId} {ts:List TypeId} {d:DataW H} {ds:List (DataW H)} (h:∀ x ∈ DataW.weightsEach Tryz.prog (t :: ts) (d :: ds),x <= 140737488351232):X1d t d /\ ∀ x ∈ DataW.weightsEach Tryz.prog ts ds,x <= 140737488351232:=by
 rw [DataW.weightsEach] at h;exact ⟨fun x hx=>h x (List.mem_append_left _ hx),fun x hx=>h x (List.mem_append_right _ hx)⟩
theorem Tryz.cS:Tryz.prog.cellsOf 9=1:=by kernel_rfl
theorem Tryz.cI:Tryz.prog.cellsOf 22=1:=by kernel_rfl
theorem Tryz.cBo:Tryz.prog.cellsOf 4=1:=by kernel_rfl
theorem Y8x {t:TypeId} {f0 f1 f2 f3 f4:Field} {fuel:Nat} {cs:List Value} {x:DataW H × List MemPlace} (ht:Tryz.prog.underlying t=some (.struct #[f0,f1,f2,f3,f4])) (h:DataW.trod enc Tryz.prog W 0 (fun _=>true) true fuel t cs=some x) :
    ∃ y0 y1 y2 y3 y4 n,x=(.agg [y0.1,y1.1,y2.1,y3.1,y4.1],y0.2 ++ (y1.2 ++ (y2.2 ++ (y3.2 ++ y4.2)))) /\ cs.length=Tryz.prog.cellsOf t /\ DataW.trod enc Tryz.prog W 0 (fun _=>true) true n f0.type ((cs.drop f0.offset).take (Tryz.prog.cellsOf f0.type))=some y0 /\
     DataW.trod enc Tryz.prog W 0 (fun _=>true) true n f1.type ((cs.drop f1.offset).take (Tryz.prog.cellsOf f1.type))=some y1 /\ DataW.trod enc Tryz.prog W 0 (fun _=>true) true n f2.type ((cs.drop f2.offset).take (Tryz.prog.cellsOf f2.type))=some y2 /\
     DataW.trod enc Tryz.prog W 0 (fun _=>true) true n f3.type ((cs.drop f3.offset).take (Tryz.prog.cellsOf f3.type))=some y3 /\ DataW.trod enc Tryz.prog W 0 (fun _=>true) true n f4.type ((cs.drop f4.offset).take (Tryz.prog.cellsOf f4.type))=some y4:=by
 obtain ⟨xs,n,_,rfl,hl,hlen,hf⟩:=DataW.trod_struct ht h
 match xs,hlen with
 | [y0,y1,y2,y3,y4],_=>exact ⟨y0,y1,y2,y3,y4,n,by simp,hl,by simpa using hf 0 f0 rfl,by simpa using hf 1 f1 rfl,by simpa using hf 2 f2 rfl,by simpa using hf 3 f3 rfl,by simpa using hf 4 f4 rfl⟩
theorem Tryz.cMb:Tryz.prog.cellsOf 68=5:=by kernel_rfl
theorem Tryz.bMb:Tryz.prog.bytesOf 68=96:=by kernel_rfl
theorem Tryz.cRu:Tryz.prog.cellsOf 115=2:=by kernel_rfl
theorem Tryz.bRu:Tryz.prog.bytesOf 115=32:=by kernel_rfl
theorem Y5y {fuel:Nat} {v:Value} {y:DataW H × List MemPlace} (h:DataW.trod enc Tryz.prog W 0 (fun _=>true) true fuel 4 [v]=some y):∃ z,v=.bool z:=by
 obtain ⟨z,h1,_⟩:=DataW.trod_bool Tryz.underlying4 h;exact ⟨z,by simpa using h1⟩
theorem Y5v {fuel:Nat} {v:Value} {y:DataW H × List MemPlace} (h:DataW.trod enc Tryz.prog W 0 (fun _=>true) true fuel 23 [v]=some y) (hw:X1d 23 y.1):∃ l,X0b W v l :=
 Q9g (α:=Mem) Tryz.underlying23 Tryz.cMb (by decide) Tryz.bMb (by decide) (fun cs y n hl h hw=>by
  obtain ⟨y0,y1,y2,y3,y4,m,rfl,_,h0,h1,h2,h3,h4⟩:=Y8x Tryz.underlying68 h
  match cs,hl with
  | [c0,c1,c2,c3,c4],_ =>
    have hw2:∀ x ∈ DataW.weightsEach Tryz.prog [9,3,22,22,22] [y0.1,y1.1,y2.1,y3.1,y4.1],x <= 140737488351232:=fun x hx=>hw x (by simpa [DataW.weights,Tryz.underlying68] using hx)
    obtain ⟨w0,r0⟩:=Q3e hw2;obtain ⟨_,r1⟩:=Q3e r0;obtain ⟨w2,r2⟩:=Q3e r1;obtain ⟨w3,r3⟩:=Q3e r2;obtain ⟨w4,_⟩:=Q3e r3;have h0':DataW.trod enc Tryz.prog W 0 (fun _=>true) true m 9 [c0]=some y0:=by simpa [Tryz.cS,Tryz.c3,Tryz.cI] using h0
    have h1':DataW.trod enc Tryz.prog W 0 (fun _=>true) true m 3 [c1]=some y1:=by simpa [Tryz.cS,Tryz.c3,Tryz.cI] using h1
    have h2':DataW.trod enc Tryz.prog W 0 (fun _=>true) true m 22 [c2]=some y2:=by simpa [Tryz.cS,Tryz.c3,Tryz.cI] using h2
    have h3':DataW.trod enc Tryz.prog W 0 (fun _=>true) true m 22 [c3]=some y3:=by simpa [Tryz.cS,Tryz.c3,Tryz.cI] using h3
    have h4':DataW.trod enc Tryz.prog W 0 (fun _=>true) true m 22 [c4]=some y4:=by simpa [Tryz.cS,Tryz.c3,Tryz.cI] using h4
    obtain ⟨s,rfl,hs⟩:=str_of_trod h0' w0;obtain ⟨z,rfl⟩:=int_of_trod h1';obtain ⟨l2,hl2⟩:=Q4z h2' w2;obtain ⟨l3,hl3⟩:=Q4z h3' w3;obtain ⟨l4,hl4⟩:=Q4z h4' w4;exact ⟨⟨s,z,l2,l3,l4⟩,rfl,rfl,hl2,hl3,hl4,hs⟩)
  (fun _ c c' x hc h=>⟨by rw [<- hc 0 (by decide)]; exact h.1,by rw [<- hc 1 (by decide)]; exact h.2.1,by rw [<- hc 2 (by decide)]; exact h.2.2.1,by rw [<- hc 3 (by decide)]; exact h.2.2.2.1,by rw [<- hc 4 (by decide)]; exact h.2.2.2.2.1,h.2.2.2.2.2⟩) h hw
theorem Y5g {fuel:Nat} {v:Value} {y:DataW H × List MemPlace} (h:DataW.trod enc Tryz.prog W 0 (fun _=>true) true fuel 45 [v]=some y) (hw:X1d 45 y.1):∃ l,Q3u W v l :=
 Q9g (α:=Rul) Tryz.underlying45 Tryz.cRu (by decide) Tryz.bRu (by decide) (fun cs y n hl h hw=>by
  obtain ⟨y0,y1,m,rfl,_,h0,h1⟩:=trod_struct2 Tryz.underlying115 h
  match cs,hl with
  | [c0,c1],_ =>
    have hw2:∀ x ∈ DataW.weightsEach Tryz.prog [22,4] [y0.1,y1.1],x <= 140737488351232:=fun x hx=>hw x (by simpa [DataW.weights,Tryz.underlying115] using hx)
    obtain ⟨w0,_⟩:=Q3e hw2;have h0':DataW.trod enc Tryz.prog W 0 (fun _=>true) true m 22 [c0]=some y0:=by simpa [Tryz.cI,Tryz.cBo] using h0
    have h1':DataW.trod enc Tryz.prog W 0 (fun _=>true) true m 4 [c1]=some y1:=by simpa [Tryz.cI,Tryz.cBo] using h1
    obtain ⟨l,hl⟩:=Q4z h0' w0;obtain ⟨z,rfl⟩:=Y5y h1';exact ⟨⟨l,z⟩,hl,rfl⟩)
  (fun _ c c' x hc h=>⟨by rw [<- hc 0 (by decide)]; exact h.1,by rw [<- hc 1 (by decide)]; exact h.2⟩) h hw
theorem Tryz.cSn:Tryz.prog.cellsOf 25=3:=by kernel_rfl
theorem Y1f {b0:Nat} {v:Value} {d:DataW H} {ps:List MemPlace} (hv:Value.okWide Tryz.prog W .any b0 25 v) (h:DataW.Trod enc Tryz.prog W 0 (fun _=>true) true 25 v d ps) (hw:X1d 25 d):∃ t,Q0f W v t:=by
 obtain ⟨cs,rfl,hsz⟩:=okWide_struct Tryz.underlying25 hv;rw [Tryz.cSn] at hsz;obtain ⟨c0,c1,c2,rfl⟩:∃ a b c,cs=#[a,b,c]:=by
  obtain ⟨l⟩:=cs
  match l,hsz with
  | [a,b,c],_=>exact ⟨a,b,c,rfl⟩
 obtain ⟨fuel,hf⟩:=h;obtain ⟨y0,y1,y2,m,hx,_,h0,h1,h2⟩:=trod_struct3 Tryz.underlying25 hf;simp only [Prod.mk.injEq] at hx;obtain ⟨rfl,_⟩:=hx;have hw2:∀ x ∈ DataW.weightsEach Tryz.prog [3,22,23] [y0.1,y1.1,y2.1],x <= 140737488351232:=fun x hx=>hw x (by simpa [DataW.weights,Tryz.underlying25] using hx)
 obtain ⟨_,r0⟩:=Q3e hw2;obtain ⟨w1,r1⟩:=Q3e r0;obtain ⟨w2,_⟩:=Q3e r1;have e2:Tryz.prog.cellsOf 23=1:=by kernel_rfl
 have h0':DataW.trod enc Tryz.prog W 0 (fun _=>true) true m 3 [c0]=some y0:=by simpa [Tryz.c3,Tryz.cI,e2,Value.cells] using h0
 have h1':DataW.trod enc Tryz.prog W 0 (fun _=>true) true m 22 [c1]=some y1:=by simpa [Tryz.c3,Tryz.cI,e2,Value.cells] using h1
 have h2':DataW.trod enc Tryz.prog W 0 (fun _=>true) true m 23 [c2]=some y2:=by simpa [Tryz.c3,Tryz.cI,e2,Value.cells] using h2
 obtain ⟨z,rfl⟩:=int_of_trod h0';obtain ⟨b,hb⟩:=Q4z h1' w1;obtain ⟨c,hc⟩:=Y5v h2' w2;exact ⟨⟨z,b,c⟩,_,_,rfl,⟨hb,hc⟩⟩
end
end Go.Proofs
