/- What values read as: slices as lists, structs as structures; all of it is kept where memory only grows. Trees as data, and what the values of the Go types read as. What the functions of chapter 7 come to, in plain lists and numbers: no program is in sight here. Seasons and policies as data, and what the values of the Go types read as. What the arguments of a law of chapter 5 read as: seasons, policies, lists of numbers, short lists of truth values. joinedFacts, fact by fact (in one declaration the kernel's lid of memory is too low for this program); the facts of the program alone. Slices that a call makes and appends to, read as lists. Contracts of small functions of the references. A region whose operations are carried out in an order that Go leaves open: one look at each operation, with what its forerunners gave, serves every order. The region theorem in the form in which it is used: the operations, their forerunners and what each gives stand in lists. Small aids for the uses of the region theorem and for boxes. The last operations of a region: the frame under a name, its slots looked up one by one (to reckon the frame out runs away). Slices of structs that a call makes and appends to, read as lists. Sets of numbers as the bits of a number, and Go's operators on them: no program is in sight here. How many bits a number has, as math/bits reckons it: no program is in sight here. What a tree without an error is like. The nodes of a tree as sets of bits, and what they come to: no program is in sight here. A block of cells under one name; the block in which nodes are made. The region theorem in a round of a range over a function: the body of such a loop is walked in the fence of a round; all else as in Flow and FlowL. -/
import Derived.WalkKit
import Derived.WalkSpells
import Derived.WalkLawsBesides
import Derived.Lib.Hide
import Derived.Below
import Derived.Carry
import Derived.Test.YtodinjclfmiohaaGreatProg
import Derived.Deep.Slices
import Derived.Deep.Strs
import Derived.ProofKit
import Derived.SizedLaws
import Derived.Test.YtodinjclfmiohaaGreatRows
import Derived.OpenShut
import Derived.LaidMore
import Derived.Lay
import Derived.Stop.Joined
import Derived.JoinedOf
import Derived.Handed
import Derived.Laws.AppendOwn
import Derived.Deep.DeepMust
import Derived.Deep.Light
import Derived.Deep.QuietTactic
import Derived.BigQuiet
import Derived.Orders
import Derived.Deep.Draws
import Derived.Laws.StructEq
import Derived.Laws.BitsLemmas
import Derived.OrdersIn
import Derived.RangeFuncCalls
import Derived.TacticsIn
set_option maxRecDepth 1000000
set_option maxHeartbeats 64000000
set_option linter.unusedVariables false
set_option linter.unusedSimpArgs false
set_option linter.constructorNameAsVariable false
namespace Go.Tw
open Go.RowKit
theorem gA {α:Type} (l:List α) (i:Nat):l.toArray[i]? = l[i]?:=by simp
theorem gB {α:Type} (a:α) (l:List α):(a :: l)[0]? = some a:=rfl
theorem gC {α:Type} (a:α) (l:List α) (i:Nat):(a :: l)[i + 1]? = l[i]?:=by simp
def Ext (w w':World):Prop:=Below w.heap.size w w'
theorem Ext.refl (w:World):Ext w w:=Below.refl _ _
theorem Ext.trans {a b c:World} (h:Ext a b) (k:Ext b c):Ext a c:=Below.trans h (Below.mono k h.size)
theorem Ext.drew {a b:World} (h:Ext a b):Ext a b.drew:=Below.drew h
theorem Ext.alloc {a b:World} (h:Ext a b) (o:Obj):Ext a (b.alloc o):=Below.alloc h h.size o
theorem Ext.below {a b:World} (h:Ext a b) {n:Nat} (hn:n <= a.heap.size):Below n a b:=Below.mono h hn
theorem Ext.cell {a b:World} (h:Ext a b) {p:Addr} {v:Value} (hc:a.cell? p = some v):b.cell? p = some v :=
 (Below.cell h (World.block_lt_of_cell? a p hc)).trans hc
theorem Ext.size {a b:World} (h:Ext a b):a.heap.size <= b.heap.size:=Below.size h
def ix (l:List Int) (k:Nat):Int:=l.getD k 0
theorem Q5p {l:List Int} {k:Nat} (h:k < l.length):ix l k = l[k]:=by simp [ix,h]
def Row (w:World) (v:Value) (n sz:Nat) (c:Nat -> Value):Prop :=
 ∃ A cap,v = .slice A n cap /\ n <= 17592186043904 /\ n <= cap /\ ∀ j,j < n * sz -> ∃ b off,A = some ⟨b,off,none⟩ /\ w.cell? ⟨b,off + j,none⟩ = some (c j)
theorem Row.ext {w w':World} {v:Value} {n sz:Nat} {c:Nat -> Value} (h:Row w v n sz c) (hx:Ext w w'):Row w' v n sz c:=by
 obtain ⟨A,cap,hv,hn,hcap,hc⟩:=h;exact ⟨A,cap,hv,hn,hcap,fun j hj=>let ⟨b,off,hA,h⟩:=hc j hj; ⟨b,off,hA,hx.cell h⟩⟩
def Rows {α:Type} (sz:Nat) (R:World -> (Nat -> Value) -> α -> Prop) (w:World) (v:Value) (l:List α):Prop :=
 ∃ c,Row w v l.length sz c /\ ∀ j (h:j < l.length),R w (fun i=>c (j * sz + i)) l[j]
theorem Rows.ext {α:Type} {sz:Nat} {R:World -> (Nat -> Value) -> α -> Prop} (hR:∀ w w' c x,Ext w w' -> R w c x -> R w' c x) {w w':World} {v:Value} {l:List α}
    (h:Rows sz R w v l) (hx:Ext w w'):Rows sz R w' v l:=by
 obtain ⟨c,h1,h2⟩:=h;exact ⟨c,h1.ext hx,fun j hj=>hR _ _ _ _ hx (h2 j hj)⟩
theorem Rows.nil {α:Type} (sz:Nat) (R:World -> (Nat -> Value) -> α -> Prop) (w:World):Rows sz R w (.slice none 0 0) [] :=
 ⟨fun _=>undef,⟨none,0,rfl,by simp,by simp,fun j hj=>by simp at hj⟩,fun j hj=>by simp at hj⟩
def Q0e:World -> Value -> List Int -> Prop:=Rows 1 fun _ c x=>c 0 = .int .i64 x
def Q2k:World -> Value -> List Bool -> Prop:=Rows 1 fun _ c x=>c 0 = .bool x
def Z8e:World -> Value -> List ByteArray -> Prop:=Rows 1 fun _ c x=>c 0 = .string x
def Q4z:World -> Value -> List (List Int) -> Prop:=Rows 1 fun w c x=>Q0e w (c 0) x
theorem Q0e.ext {w w':World} {v:Value} {l:List Int} (h:Q0e w v l) (hx:Ext w w'):Q0e w' v l:=Rows.ext (fun _ _ _ _ _ h=>h) h hx
theorem Q2k.ext {w w':World} {v:Value} {l:List Bool} (h:Q2k w v l) (hx:Ext w w'):Q2k w' v l:=Rows.ext (fun _ _ _ _ _ h=>h) h hx
theorem Z8e.ext {w w':World} {v:Value} {l:List ByteArray} (h:Z8e w v l) (hx:Ext w w'):Z8e w' v l:=Rows.ext (fun _ _ _ _ _ h=>h) h hx
theorem Q4z.ext {w w':World} {v:Value} {l:List (List Int)} (h:Q4z w v l) (hx:Ext w w'):Q4z w' v l:=Rows.ext (fun _ _ _ _ hx h=>h.ext hx) h hx
theorem Q0e.opened {w:World} {v:Value} {l:List Int} (h:Q0e w v l) :
    ∃ A cap,v = .slice A l.length cap /\ l.length <= 17592186043904 /\ l.length <= cap /\ ∀ k,k < l.length -> ∃ b off,A = some ⟨b,off,none⟩ /\ w.cell? ⟨b,off + k,none⟩ = some (.int .i64 (ix l k)):=by
 obtain ⟨c,⟨A,cap,hv,hn,hcap,hc⟩,h2⟩:=h;refine ⟨A,cap,hv,hn,hcap,fun k hk=>?_⟩;obtain ⟨b,off,hA,h⟩:=hc k (by omega)
 refine ⟨b,off,hA,?_⟩;have:=h2 k hk;simp only [Nat.mul_one,Nat.add_zero] at this;rw [h,this,Q5p hk]
end Go.Tw
namespace Go.Tw
open Go.RowKit
structure Basic where
 name:ByteArray
 chance:Int
structure Y1e where
 name:ByteArray
 chance:Int
 members:List Int
structure Gate where
 kind:ByteArray
 need:Int
 inputs:List Int
structure Tree where
 basics:List Basic
 causes:List Y1e
 gates:List Gate
instance:Inhabited Basic:=⟨⟨⟨#[]⟩,0⟩⟩
instance:Inhabited Y1e:=⟨⟨⟨#[]⟩,0,[]⟩⟩
instance:Inhabited Gate:=⟨⟨⟨#[]⟩,0,[]⟩⟩
def Short (s:ByteArray):Prop:=s.size <= 140737488355328
def Y9g (_:World) (c:Nat -> Value) (x:Basic):Prop:=c 0 = .string x.name /\ c 1 = .int .i64 x.chance /\ Short x.name
def Y8r (w:World) (c:Nat -> Value) (x:Y1e):Prop:=c 0 = .string x.name /\ c 1 = .int .i64 x.chance /\ Q0e w (c 2) x.members /\ Short x.name
def Z9v (w:World) (c:Nat -> Value) (x:Gate):Prop:=c 0 = .string x.kind /\ c 1 = .int .i64 x.need /\ Q0e w (c 2) x.inputs /\ Short x.kind
theorem Y9g.ext (w w':World) (c:Nat -> Value) (x:Basic) (_:Ext w w') (h:Y9g w c x):Y9g w' c x:=h
theorem Y8r.ext (w w':World) (c:Nat -> Value) (x:Y1e) (hx:Ext w w') (h:Y8r w c x):Y8r w' c x:=⟨h.1,h.2.1,h.2.2.1.ext hx,h.2.2.2⟩
theorem Z9v.ext (w w':World) (c:Nat -> Value) (x:Gate) (hx:Ext w w') (h:Z9v w c x):Z9v w' c x:=⟨h.1,h.2.1,h.2.2.1.ext hx,h.2.2.2⟩
def X0o:World -> Value -> List Basic -> Prop:=Rows 2 Y9g
def X0u:World -> Value -> List Y1e -> Prop:=Rows 3 Y8r
def X5f:World -> Value -> List Gate -> Prop:=Rows 3 Z9v
theorem X0o.ext {w w':World} {v:Value} {l:List Basic} (h:X0o w v l) (hx:Ext w w'):X0o w' v l:=Rows.ext Y9g.ext h hx
theorem X0u.ext {w w':World} {v:Value} {l:List Y1e} (h:X0u w v l) (hx:Ext w w'):X0u w' v l:=Rows.ext Y8r.ext h hx
theorem X5f.ext {w w':World} {v:Value} {l:List Gate} (h:X5f w v l) (hx:Ext w w'):X5f w' v l:=Rows.ext Z9v.ext h hx
structure Y6i (w:World) (a b c:Value) (t:Tree):Prop where
 basics:X0o w a t.basics
 causes:X0u w b t.causes
 gates:X5f w c t.gates
theorem Y6i.ext {w w':World} {a b c:Value} {t:Tree} (h:Y6i w a b c t) (hx:Ext w w'):Y6i w' a b c t:=⟨h.basics.ext hx,h.causes.ext hx,h.gates.ext hx⟩
def IsTree (w:World) (v:Value) (t:Tree):Prop:=∃ a b c,v = .agg #[a,b,c] /\ Y6i w a b c t
theorem IsTree.ext {w w':World} {v:Value} {t:Tree} (h:IsTree w v t) (hx:Ext w w'):IsTree w' v t:=let ⟨a,b,c,hv,h3⟩:=h; ⟨a,b,c,hv,h3.ext hx⟩
def bName (l:List Basic) (k:Nat):ByteArray:=(l.getD k default).name
def Z2g (l:List Basic) (k:Nat):Int:=(l.getD k default).chance
def cName (l:List Y1e) (k:Nat):ByteArray:=(l.getD k default).name
def Z1u (l:List Y1e) (k:Nat):Int:=(l.getD k default).chance
def Q8w (l:List Y1e) (k:Nat):List Int:=(l.getD k default).members
def Z3m (l:List Gate) (k:Nat):ByteArray:=(l.getD k default).kind
def Z9q (l:List Gate) (k:Nat):Int:=(l.getD k default).need
def Q7p (l:List Gate) (k:Nat):List Int:=(l.getD k default).inputs
theorem Q1c {k:IntKind} {a b:Int} (h:a = b):Ending.returned (.int k a) = .returned (.int k b):=by rw [h]
theorem Q0z {a b:Bool} (h:a = b):Ending.returned (.bool a) = .returned (.bool b):=by rw [h]
def has (l:List Int) (x:Int):Bool:=l.contains x
theorem Z4k (y:Int) (l:List Int) (x:Int):has (y :: l) x = (y == x || has l x):=by
 unfold has; rw [List.contains_cons,Bool.beq_comm]
theorem J6y {l:List Int} {x:Int}:has l x = true ↔ x ∈ l:=by simp [has]
theorem Q0y {α:Type} {l:List α} {k:Nat} (d:α) (h:k < l.length):l.getD k d = l[k]:=by simp [h]
theorem X0o.opened {w:World} {v:Value} {l:List Basic} (h:X0o w v l) :
    ∃ A cap,v = .slice A l.length cap /\ l.length <= 17592186043904 /\ l.length <= cap /\ ∀ k,k < l.length -> ∃ b off,A = some ⟨b,off,none⟩ /\ b < w.heap.size /\
     w.cell? ⟨b,off + k * 2,none⟩ = some (.string (bName l k)) /\ w.cell? ⟨b,off + k * 2 + 1,none⟩ = some (.int .i64 (Z2g l k)) /\ Short (bName l k):=by
 obtain ⟨c,⟨A,cap,hv,hn,hcap,hc⟩,h2⟩:=h;refine ⟨A,cap,hv,hn,hcap,fun k hk=>?_⟩;obtain ⟨b,off,hA,h0⟩:=hc (k * 2) (by omega)
 obtain ⟨b',off',hA',h1⟩:=hc (k * 2 + 1) (by omega)
 rw [hA] at hA'; cases hA';obtain ⟨e0,e1,e2⟩:=h2 k hk;simp only [Nat.add_zero] at e0 e1;refine ⟨b,off,hA,World.block_lt_of_cell? w _ h0,?_,?_,?_⟩
 . rw [h0,e0,bName,Q0y _ hk]
 . rw [Nat.add_assoc,h1,e1,Z2g,Q0y _ hk]
 . rw [bName,Q0y _ hk]; exact e2
theorem X0u.opened {w:World} {v:Value} {l:List Y1e} (h:X0u w v l) :
    ∃ A cap,v = .slice A l.length cap /\ l.length <= 17592186043904 /\ l.length <= cap /\ ∀ k,k < l.length -> ∃ b off m,A = some ⟨b,off,none⟩ /\ b < w.heap.size /\
     w.cell? ⟨b,off + k * 3,none⟩ = some (.string (cName l k)) /\ w.cell? ⟨b,off + k * 3 + 1,none⟩ = some (.int .i64 (Z1u l k)) /\
     w.cell? ⟨b,off + k * 3 + 2,none⟩ = some m /\ Q0e w m (Q8w l k) /\ Short (cName l k):=by
 obtain ⟨c,⟨A,cap,hv,hn,hcap,hc⟩,h2⟩:=h;refine ⟨A,cap,hv,hn,hcap,fun k hk=>?_⟩;obtain ⟨b,off,hA,h0⟩:=hc (k * 3) (by omega)
 obtain ⟨b',off',hA',h1⟩:=hc (k * 3 + 1) (by omega)
 rw [hA] at hA'; cases hA';obtain ⟨b',off',hA',h3⟩:=hc (k * 3 + 2) (by omega)
 rw [hA] at hA'; cases hA';obtain ⟨e0,e1,e2,e3⟩:=h2 k hk;simp only [Nat.add_zero] at e0 e1;refine ⟨b,off,c (k * 3 + 2),hA,World.block_lt_of_cell? w _ h0,?_,?_,?_,?_,?_⟩
 . rw [h0,e0,cName,Q0y _ hk]
 . rw [Nat.add_assoc,h1,e1,Z1u,Q0y _ hk]
 . rw [Nat.add_assoc,h3]
 . rw [Q8w,Q0y _ hk]; exact e2
 . rw [cName,Q0y _ hk]; exact e3
theorem X5f.opened {w:World} {v:Value} {l:List Gate} (h:X5f w v l) :
    ∃ A cap,v = .slice A l.length cap /\ l.length <= 17592186043904 /\ l.length <= cap /\ ∀ k,k < l.length -> ∃ b off m,A = some ⟨b,off,none⟩ /\ b < w.heap.size /\
     w.cell? ⟨b,off + k * 3,none⟩ = some (.string (Z3m l k)) /\ w.cell? ⟨b,off + k * 3 + 1,none⟩ = some (.int .i64 (Z9q l k)) /\
     w.cell? ⟨b,off + k * 3 + 2,none⟩ = some m /\ Q0e w m (Q7p l k) /\ Short (Z3m l k):=by
 obtain ⟨c,⟨A,cap,hv,hn,hcap,hc⟩,h2⟩:=h;refine ⟨A,cap,hv,hn,hcap,fun k hk=>?_⟩;obtain ⟨b,off,hA,h0⟩:=hc (k * 3) (by omega)
 obtain ⟨b',off',hA',h1⟩:=hc (k * 3 + 1) (by omega)
 rw [hA] at hA'; cases hA';obtain ⟨b',off',hA',h3⟩:=hc (k * 3 + 2) (by omega)
 rw [hA] at hA'; cases hA';obtain ⟨e0,e1,e2,e3⟩:=h2 k hk;simp only [Nat.add_zero] at e0 e1;refine ⟨b,off,c (k * 3 + 2),hA,World.block_lt_of_cell? w _ h0,?_,?_,?_,?_,?_⟩
 . rw [h0,e0,Z3m,Q0y _ hk]
 . rw [Nat.add_assoc,h1,e1,Z9q,Q0y _ hk]
 . rw [Nat.add_assoc,h3]
 . rw [Q7p,Q0y _ hk]; exact e2
 . rw [Z3m,Q0y _ hk]; exact e3
def bx (l:List Bool) (k:Nat):Bool:=l.getD k false
theorem Q2k.opened {w:World} {v:Value} {l:List Bool} (h:Q2k w v l) :
    ∃ A cap,v = .slice A l.length cap /\ l.length <= 17592186043904 /\ l.length <= cap /\ ∀ k,k < l.length -> ∃ b off,A = some ⟨b,off,none⟩ /\ b < w.heap.size /\ w.cell? ⟨b,off + k,none⟩ = some (.bool (bx l k)):=by
 obtain ⟨c,⟨A,cap,hv,hn,hcap,hc⟩,h2⟩:=h;refine ⟨A,cap,hv,hn,hcap,fun k hk=>?_⟩;obtain ⟨b,off,hA,h⟩:=hc k (by omega)
 refine ⟨b,off,hA,World.block_lt_of_cell? w _ h,?_⟩;have:=h2 k hk;simp only [Nat.mul_one,Nat.add_zero] at this;rw [h,this,bx,Q0y _ hk]
theorem str_eq {a b:ByteArray} (h:a = b):(a == b) = true:=by subst h; obtain ⟨⟨d⟩⟩:=a; show (Array.mk d == Array.mk d) = true; simp
theorem X1a {a b:ByteArray} (h:¬ a = b):(a == b) = false:=by
 obtain ⟨a⟩:=a; obtain ⟨b⟩:=b;show (a == b) = false;rw [beq_eq_false_iff_ne];exact fun e=>h (by rw [e])
theorem Ext.cells {a b:World} (h:Ext a b):∀ k o,k < a.heap.size -> b.cell? ⟨k,o,none⟩ = a.cell? ⟨k,o,none⟩:=fun _ _ hk=>Below.cell (p:=⟨_,_,none⟩) h hk
end Go.Tw
namespace Go.Tw
def Q0k:List Int -> Int
 | []=>0
 | x :: l=>if x = 0 then Q0k l else x
def Q0g (x a b:Int):Int:=if x < a ∨ b < x then 3 else 0
def Z8z:List Int -> Bool
 | x :: y :: l=>decide (x < y) && Z8z (y :: l)
 | _=>true
def K0d (l:List Int) (n:Int):Bool:=l.any fun x=>decide (x < 0 ∨ n <= x)
def Z4u (l:List Int) (n:Int):Int:=if K0d l n then 10 else if Z8z l then 0 else 11
def X5m (l:List Int) (n:Int):Int:=if l = [] then 12 else Z4u l n
def Q1o (c:UInt8):Bool:=(decide (97 <= c) && decide (c <= 122)) || (decide (65 <= c) && decide (c <= 90))
def Q3u (c:UInt8):Bool:=c == 95 || (decide (48 <= c) && decide (c <= 57))
def nameB (s:ByteArray):Bool:=match s.data.toList with
 | []=>false
 | c :: l=>Q1o c && l.all (fun c=>Q1o c || Q3u c) && decide (l.length < 24)
def J7a (s:ByteArray):Int:=if nameB s then 0 else 8
def K0e:ByteArray:=⟨#[97,110,100]⟩
def sOr:ByteArray:=⟨#[111,114]⟩
def J7y:ByteArray:=⟨#[118,111,116,101]⟩
namespace Tree
def size (t:Tree):Nat:=t.basics.length + t.causes.length
def nodes (t:Tree):Nat:=t.basics.length + t.gates.length
def nameAt (t:Tree) (i:Nat):ByteArray:=if i < t.basics.length then bName t.basics i else cName t.causes (i - t.basics.length)
def X7r (t:Tree) (i:Nat):Int:=if i < t.basics.length then Z2g t.basics i else Z1u t.causes (i - t.basics.length)
def J8c (t:Tree) (i:Nat):Bool:=(List.range i).any fun k=>t.nameAt k == t.nameAt i
def X7o (t:Tree) (i:Nat):Int :=
 Q0k [J7a (t.nameAt i),Q0g (t.X7r i) 0 16,if t.J8c i then 9 else 0,if i < t.basics.length then 0 else X5m (Q8w t.causes (i - t.basics.length)) t.basics.length]
end Tree
def J9v (s:ByteArray):Bool:=s == K0e || s == sOr || s == J7y
def J5t (kind:ByteArray) (need:Int) (n:Nat):Int:=if kind = J7y then Q0g need 1 n else Q0g need 0 0
def Z9n (kind:ByteArray) (need:Int) (inputs:List Int) (nodes:Int):Int :=
 Q0k [if J9v kind then 0 else 13,if 12 < inputs.length then 5 else 0,X5m inputs nodes,J5t kind need inputs.length]
namespace Tree
def Y0p (t:Tree) (i:Nat):Int:=Z9n (Z3m t.gates i) (Z9q t.gates i) (Q7p t.gates i) ((t.basics.length:Int) + i)
def err (t:Tree):Int :=
 if t.basics.length = 0 ∨ t.gates.length = 0 then 12 else if 12 < t.size ∨ 32 < t.gates.length then 5 else
 Q0k ((List.range t.size).map t.X7o ++ (List.range t.gates.length).map t.Y0p)
def J7t (t:Tree) (ev:Nat -> Bool) (i:Nat):Bool:=ev i || (List.range t.causes.length).any fun k=>ev (t.basics.length + k) && has (Q8w t.causes k) i
end Tree
def J4p (kind:ByteArray) (need:Int) (n:Nat):Int:=if kind = K0e then n else if kind = sOr then 1 else need
def failing (out:List Bool) (inputs:List Int):Nat:=inputs.countP fun x=>bx out x.toNat
def J8b (out:List Bool) (kind:ByteArray) (need:Int) (inputs:List Int):Bool:=decide (J4p kind need inputs.length <= failing out inputs)
namespace Tree
def Z9u (t:Tree) (ev:Nat -> Bool):List Bool:=(List.range t.basics.length).map (t.J7t ev)
def Q9l (t:Tree) (ev:Nat -> Bool):Nat -> List Bool
 | 0=>t.Z9u ev
 | n + 1=>t.Q9l ev n ++ [J8b (t.Q9l ev n) (Z3m t.gates n) (Z9q t.gates n) (Q7p t.gates n)]
def states (t:Tree) (ev:Nat -> Bool):List Bool:=t.Q9l ev t.gates.length
def fails (t:Tree) (ev:Nat -> Bool):Bool:=bx (t.states ev) (t.nodes - 1)
end Tree
def evL (l:List Int) (i:Nat):Bool:=has l i
def evN (s:Nat) (i:Nat):Bool:=s.testBit i
def bitsOf (s:Nat):List Int:=((List.range 16).filter (s.testBit ·)).map Int.ofNat
def others (n:Nat) (l:List Int):List Int:=((List.range n).map Int.ofNat).filter fun x=>!has l x
def without (l:List Int) (k:Nat):List Int:=l.take k ++ l.drop (k + 1)
namespace Tree
def setB (t:Tree) (l:List Int) (paths:Bool):Bool:=if paths then !t.fails (evL (others t.size l)) else t.fails (evL l)
def J2s (t:Tree) (l:List Int) (paths:Bool):Bool:=t.setB l paths && !(List.range l.length).any fun k=>t.setB (without l k) paths
end Tree
def Q6s:List Int -> List Int -> Bool
 | x :: l,y :: m=>if x = y then Q6s l m else decide (x < y)
 | _,_=>false
def Q1z (a b:List Int):Bool:=if a.length = b.length then Q6s a b else decide (a.length < b.length)
def Q3o (l:List Int) (out:List (List Int)):Nat -> Nat
 | 0=>0
 | n + 1=>if Q1z l (out.getD n []) then Q3o l out n else n + 1
def Z6e (l:List Int) (out:List (List Int)):List (List Int):=out.take (Q3o l out out.length) ++ [l] ++ out.drop (Q3o l out out.length)
namespace Tree
def sets (t:Tree) (paths:Bool):List (List Int):=(List.range (2 ^ t.size)).foldl (fun out s=>if t.J2s (bitsOf s) paths then Z6e (bitsOf s) out else out) []
end Tree
namespace Tree
end Tree
def factor (c:List Int) (s j:Nat):Int:=if s.testBit j then ix c j else 16 - ix c j
def J5k (c:List Int) (s:Nat):Nat -> Int
 | 0=>1
 | j + 1=>J5k c s j * factor c s j
def partOf (c:List Int) (s:Nat):Int:=J5k c s c.length
namespace Tree
def Y4o (t:Tree) (c:List Int):Nat -> Int
 | 0=>0
 | s + 1=>t.Y4o c s + if t.fails (evN s) then partOf c s else 0
def weight (t:Tree) (c:List Int):Int:=t.Y4o c (2 ^ t.size)
end Tree
structure Ratio where
 num:Int
 den:Int
deriving DecidableEq
end Go.Tw
namespace Go.Tw
open Go.RowKit
structure Mem where
 name:ByteArray
 weight:Int
 classes:List Int
 outside:List Int
 inflow:List Int
structure Q0b where
 limit:Int
 ships:List Int
 members:List Mem
structure Rul where
 classes:List Int
 close:Bool
structure Grp where
 members:List Int
 weight:Int
instance:Inhabited Mem:=⟨⟨⟨#[]⟩,0,[],[],[]⟩⟩
instance:Inhabited Rul:=⟨⟨[],false⟩⟩
instance:Inhabited Grp:=⟨⟨[],0⟩⟩
def J8j (w:World) (c:Nat -> Value) (x:Mem):Prop:=c 0 = .string x.name /\ c 1 = .int .i64 x.weight /\ Q0e w (c 2) x.classes /\ Q0e w (c 3) x.outside /\ Q0e w (c 4) x.inflow /\ Short x.name
def J9i (w:World) (c:Nat -> Value) (x:Rul):Prop:=Q0e w (c 0) x.classes /\ c 1 = .bool x.close
def J8e (w:World) (c:Nat -> Value) (x:Grp):Prop:=Q0e w (c 0) x.members /\ c 1 = .int .i64 x.weight
theorem J8j.ext (w w':World) (c:Nat -> Value) (x:Mem) (hx:Ext w w') (h:J8j w c x):J8j w' c x:=⟨h.1,h.2.1,h.2.2.1.ext hx,h.2.2.2.1.ext hx,h.2.2.2.2.1.ext hx,h.2.2.2.2.2⟩
theorem J9i.ext (w w':World) (c:Nat -> Value) (x:Rul) (hx:Ext w w') (h:J9i w c x):J9i w' c x:=⟨h.1.ext hx,h.2⟩
theorem J8e.ext (w w':World) (c:Nat -> Value) (x:Grp) (hx:Ext w w') (h:J8e w c x):J8e w' c x:=⟨h.1.ext hx,h.2⟩
def X1g:World -> Value -> List Mem -> Prop:=Rows 5 J8j
def Q5d:World -> Value -> List Rul -> Prop:=Rows 2 J9i
def X2c:World -> Value -> List Grp -> Prop:=Rows 2 J8e
theorem X1g.ext {w w':World} {v:Value} {l:List Mem} (h:X1g w v l) (hx:Ext w w'):X1g w' v l:=Rows.ext J8j.ext h hx
theorem Q5d.ext {w w':World} {v:Value} {l:List Rul} (h:Q5d w v l) (hx:Ext w w'):Q5d w' v l:=Rows.ext J9i.ext h hx
theorem X2c.ext {w w':World} {v:Value} {l:List Grp} (h:X2c w v l) (hx:Ext w w'):X2c w' v l:=Rows.ext J8e.ext h hx
structure Q2e (w:World) (a b:Value) (s:Q0b):Prop where
 ships:Q0e w a s.ships
 members:X1g w b s.members
theorem Q2e.ext {w w':World} {a b:Value} {s:Q0b} (h:Q2e w a b s) (hx:Ext w w'):Q2e w' a b s:=⟨h.ships.ext hx,h.members.ext hx⟩
def Q0p (w:World) (v:Value) (s:Q0b):Prop:=∃ a b,v = .agg #[.int .i64 s.limit,a,b] /\ Q2e w a b s
theorem Q0p.ext {w w':World} {v:Value} {s:Q0b} (h:Q0p w v s) (hx:Ext w w'):Q0p w' v s:=let ⟨a,b,hv,h2⟩:=h; ⟨a,b,hv,h2.ext hx⟩
def Q6d (w:World) (v:Value) (p:List Rul):Prop:=∃ a,v = .agg #[a] /\ Q5d w a p
theorem Q6d.ext {w w':World} {v:Value} {p:List Rul} (h:Q6d w v p) (hx:Ext w w'):Q6d w' v p:=let ⟨a,hv,h2⟩:=h; ⟨a,hv,h2.ext hx⟩
def Q1d (l:List Mem) (k:Nat):ByteArray:=(l.getD k default).name
def Q0h (l:List Mem) (k:Nat):Int:=(l.getD k default).weight
def Q0d (l:List Mem) (k:Nat):List Int:=(l.getD k default).classes
def Q0n (l:List Mem) (k:Nat):List Int:=(l.getD k default).outside
def Q0s (l:List Mem) (k:Nat):List Int:=(l.getD k default).inflow
def Q3a (l:List Rul) (k:Nat):List Int:=(l.getD k default).classes
def X6m (l:List Rul) (k:Nat):Bool:=(l.getD k default).close
def X7s (l:List Grp) (k:Nat):List Int:=(l.getD k default).members
def J0h (l:List Grp) (k:Nat):Int:=(l.getD k default).weight
theorem X1g.opened {w:World} {v:Value} {l:List Mem} (h:X1g w v l) :
    ∃ A cap,v = .slice A l.length cap /\ l.length <= 17592186043904 /\ l.length <= cap /\ ∀ k,k < l.length -> ∃ b off x y z,A = some ⟨b,off,none⟩ /\ b < w.heap.size /\
     w.cell? ⟨b,off + k * 5,none⟩ = some (.string (Q1d l k)) /\ w.cell? ⟨b,off + k * 5 + 1,none⟩ = some (.int .i64 (Q0h l k)) /\
     w.cell? ⟨b,off + k * 5 + 2,none⟩ = some x /\ w.cell? ⟨b,off + k * 5 + 3,none⟩ = some y /\ w.cell? ⟨b,off + k * 5 + 4,none⟩ = some z /\
     Q0e w x (Q0d l k) /\ Q0e w y (Q0n l k) /\ Q0e w z (Q0s l k) /\ Short (Q1d l k):=by
 obtain ⟨c,⟨A,cap,hv,hn,hcap,hc⟩,h2⟩:=h;refine ⟨A,cap,hv,hn,hcap,fun k hk=>?_⟩;obtain ⟨b,off,hA,h0⟩:=hc (k * 5) (by omega)
 obtain ⟨b',off',hA',h1⟩:=hc (k * 5 + 1) (by omega)
 rw [hA] at hA'; cases hA';obtain ⟨b',off',hA',h3⟩:=hc (k * 5 + 2) (by omega)
 rw [hA] at hA'; cases hA';obtain ⟨b',off',hA',h4⟩:=hc (k * 5 + 3) (by omega)
 rw [hA] at hA'; cases hA';obtain ⟨b',off',hA',h5⟩:=hc (k * 5 + 4) (by omega)
 rw [hA] at hA'; cases hA';obtain ⟨e0,e1,e2,e3,e4,e5⟩:=h2 k hk;simp only [Nat.add_zero] at e0 e1;refine ⟨b,off,c (k * 5 + 2),c (k * 5 + 3),c (k * 5 + 4),hA,World.block_lt_of_cell? w _ h0,?_,?_,?_,?_,?_,?_,?_,?_,?_⟩
 . rw [h0,e0,Q1d,Q0y _ hk]
 . rw [Nat.add_assoc,h1,e1,Q0h,Q0y _ hk]
 . rw [Nat.add_assoc,h3]
 . rw [Nat.add_assoc,h4]
 . rw [Nat.add_assoc,h5]
 . rw [Q0d,Q0y _ hk]; exact e2
 . rw [Q0n,Q0y _ hk]; exact e3
 . rw [Q0s,Q0y _ hk]; exact e4
 . rw [Q1d,Q0y _ hk]; exact e5
theorem Q5d.opened {w:World} {v:Value} {l:List Rul} (h:Q5d w v l) :
    ∃ A cap,v = .slice A l.length cap /\ l.length <= 17592186043904 /\ l.length <= cap /\ ∀ k,k < l.length -> ∃ b off x,A = some ⟨b,off,none⟩ /\ b < w.heap.size /\
     w.cell? ⟨b,off + k * 2,none⟩ = some x /\ w.cell? ⟨b,off + k * 2 + 1,none⟩ = some (.bool (X6m l k)) /\ Q0e w x (Q3a l k):=by
 obtain ⟨c,⟨A,cap,hv,hn,hcap,hc⟩,h2⟩:=h;refine ⟨A,cap,hv,hn,hcap,fun k hk=>?_⟩;obtain ⟨b,off,hA,h0⟩:=hc (k * 2) (by omega)
 obtain ⟨b',off',hA',h1⟩:=hc (k * 2 + 1) (by omega)
 rw [hA] at hA'; cases hA';obtain ⟨e0,e1⟩:=h2 k hk;simp only [Nat.add_zero] at e0 e1;refine ⟨b,off,c (k * 2),hA,World.block_lt_of_cell? w _ h0,?_,?_,?_⟩
 . rw [h0]
 . rw [Nat.add_assoc,h1,e1,X6m,Q0y _ hk]
 . rw [Q3a,Q0y _ hk]; exact e0
theorem X2c.opened {w:World} {v:Value} {l:List Grp} (h:X2c w v l) :
    ∃ A cap,v = .slice A l.length cap /\ l.length <= 17592186043904 /\ l.length <= cap /\ ∀ k,k < l.length -> ∃ b off x,A = some ⟨b,off,none⟩ /\ b < w.heap.size /\
     w.cell? ⟨b,off + k * 2,none⟩ = some x /\ w.cell? ⟨b,off + k * 2 + 1,none⟩ = some (.int .i64 (J0h l k)) /\ Q0e w x (X7s l k):=by
 obtain ⟨c,⟨A,cap,hv,hn,hcap,hc⟩,h2⟩:=h;refine ⟨A,cap,hv,hn,hcap,fun k hk=>?_⟩;obtain ⟨b,off,hA,h0⟩:=hc (k * 2) (by omega)
 obtain ⟨b',off',hA',h1⟩:=hc (k * 2 + 1) (by omega)
 rw [hA] at hA'; cases hA';obtain ⟨e0,e1⟩:=h2 k hk;simp only [Nat.add_zero] at e0 e1;refine ⟨b,off,c (k * 2),hA,World.block_lt_of_cell? w _ h0,?_,?_,?_⟩
 . rw [h0]
 . rw [Nat.add_assoc,h1,e1,J0h,Q0y _ hk]
 . rw [X7s,Q0y _ hk]; exact e0
end Go.Tw
namespace Go.Proofs
open Go.RowKit Go.Tw Go.ChangeShapes Go.WideShapes Go.Deep
section
variable {H:Type} {enc:TypeId × Value -> H} {W:World}
def X6d (t:TypeId) (d:DataW H):Prop:=∀ x ∈ d.weights Tryz.prog t,x <= 140737488351232
theorem Y3c (b off n:Nat):(⟨b,off,none⟩:Addr).add n = ⟨b,off + n,none⟩:=by
 unfold Addr.add
 split
 . simp_all
 . rfl
theorem X6i {α:Type} [Inhabited α] {t e:TypeId} {k bts fuel:Nat} {v:Value} {y:DataW H × List MemPlace} {R:World -> (Nat -> Value) -> α -> Prop} (ht:Tryz.prog.underlying t = some (.slice e)) (hc:Tryz.prog.cellsOf e = k) (hk:0 < k) (hb:Tryz.prog.bytesOf e = bts) (h8:8 <= bts)
    (hel:∀ (cs:List Value) (y:DataW H × List MemPlace) (n:Nat),cs.length = k -> DataW.trod enc Tryz.prog W 0 (fun _=>true) true n e cs = some y -> X6d e y.1 -> ∃ x:α,R W (fun i=>cs.getD i undef) x)
    (hloc:∀ (w:World) (c c':Nat -> Value) (x:α),(∀ i,i < k -> c i = c' i) -> R w c x -> R w c' x)
    (h:DataW.trod enc Tryz.prog W 0 (fun _=>true) true fuel t [v] = some y) (hw:X6d t y.1):∃ l:List α,Go.Tw.Rows k R W v l:=by
 rcases open_slice ht h with ⟨hcs,_⟩ | ⟨a,len,cap,m,n,D,Pl,hcs,_,hlc,_,hm,rfl,hx⟩
 . obtain rfl:v = .slice none 0 0:=by simpa using hcs
   exact ⟨[],Go.Tw.Rows.nil _ _ _⟩
 . obtain rfl:v = .slice (some a) len cap:=by simpa using hcs
   simp only [if_true] at hm;subst hm;rw [hc] at hx;have hhead:(len + (m - len)) * bts <= 140737488351232:=by
    have:=hw ((((List.range len).map D).length + ((List.range (m - len)).map fun j=>D (len + j)).length) * Tryz.prog.bytesOf e) (by simp [DataW.weights,ht])
    simpa [hb] using this
   have hm8:m * 8 <= 140737488351232:=by
    have h1:m = len + (m - len):=by omega
    rw [<- h1] at hhead;exact Nat.le_trans (Nat.mul_le_mul_left m h8) hhead
   have hfit:∀ i,i < len -> X6d e (D i):=by
    intro i hi x hx';refine hw x ?_;have e1:∀ (l:List (DataW H)) d,d ∈ l -> x ∈ d.weights Tryz.prog e -> x ∈ DataW.weightsAll Tryz.prog e l:=by
     intro l
     induction l with
     | nil=>intro d hd; cases hd
     | cons d0 l ih =>
       intro d hd hxx;rw [DataW.weightsAll]
       rcases List.mem_cons.1 hd with rfl | hd
       . exact List.mem_append_left _ hxx
       . exact List.mem_append_right _ (ih d hd hxx)
    simp only [DataW.weights,ht];refine List.mem_cons_of_mem _ (List.mem_append_left _ (e1 _ (D i) ?_ hx'));exact List.mem_map.2 ⟨i,List.mem_range.2 hi,rfl⟩
   obtain ⟨f,hf⟩:=choose_lt (α:=List Value) (n:=len) (p:=fun i cs=>(∀ r,r < k -> W.cell? ((a.add (i * k)).add r) = cs[r]?) /\ cs.length = k /\ ∃ x:α,R W (fun j=>cs.getD j undef) x) (fun i hi=>by
    obtain ⟨cs,h1,h2⟩:=hx i (by omega)
    obtain ⟨_,h3,h4⟩:=World.cells?_some h1;exact ⟨cs,h4,h3,hel cs _ n h3 h2 (hfit i hi)⟩)
   obtain ⟨g,hg⟩:=choose_lt (α:=α) (n:=len) (p:=fun i x=>R W (fun j=>(f i).getD j undef) x) (fun i hi=>(hf i hi).2.2)
   have hR:∀ i,i < len -> R W (fun j=>(f ((i * k + j) / k)).getD ((i * k + j) % k) undef) (g i):=fun i hi=>hloc W _ _ _ (fun j hj=>by
    have e1:(i * k + j) / k = i:=by rw [Nat.mul_comm,Nat.mul_add_div hk,Nat.div_eq_of_lt hj,Nat.add_zero]
    have e2:(i * k + j) % k = j:=by rw [Nat.mul_comm,Nat.mul_add_mod,Nat.mod_eq_of_lt hj]
    rw [e1,e2]) (hg i hi)
   refine ⟨(List.range len).map g,fun j=>(f (j / k)).getD (j % k) undef,⟨some a,m,by simp,by simp; omega,by simpa using hlc,fun j hj=>?_⟩,fun j hj=>?_⟩
   . have hj':j < len * k:=by simpa using hj
     have hq:j / k < len:=(Nat.div_lt_iff_lt_mul hk).2 hj';have hr:j % k < k:=Nat.mod_lt _ hk;obtain ⟨h1,h2,_⟩:=hf (j / k) hq;have h3:=h1 (j % k) hr;rw [List.getElem?_eq_getElem (by omega)] at h3
     have hsp:a.spot = none:=by
      obtain ⟨g1,g2,_⟩:=hf 0 (Nat.lt_of_le_of_lt (Nat.zero_le _) hq);have g3:=g1 0 hk;rw [List.getElem?_eq_getElem (by omega)] at g3
      have:=World.cell?_spot g3
      simpa [Addr.add] using this
     obtain ⟨b,off,spot⟩:=a;obtain rfl:spot = none:=hsp;refine ⟨b,off,rfl,?_⟩;have e:(((⟨b,off,none⟩:Addr).add (j / k * k)).add (j % k)) = ⟨b,off + j,none⟩:=by
      rw [Y3c,Y3c,Nat.add_assoc];have:j / k * k + j % k = j:=by rw [Nat.mul_comm]; exact Nat.div_add_mod j k
      rw [this]
     rw [e] at h3;rw [h3];simp [h2,hr]
   . have hj':j < len:=by simpa using hj
     have:=hR j hj'
     simpa using this
theorem Tryz.c3:Tryz.prog.cellsOf 3 = 1:=by kernel_rfl
theorem Tryz.b3:Tryz.prog.bytesOf 3 = 8:=by kernel_rfl
theorem Q6y {fuel:Nat} {v:Value} {y:DataW H × List MemPlace} (h:DataW.trod enc Tryz.prog W 0 (fun _=>true) true fuel 44 [v] = some y) (hw:X6d 44 y.1):∃ l,Q0e W v l :=
 X6i (α:=Int) Tryz.underlying44 Tryz.c3 (by decide) Tryz.b3 (by decide) (fun cs y n hl h _=>by
  obtain ⟨z,rfl,_,_⟩:=DataW.trod_int Tryz.underlying3 h;exact ⟨z,rfl⟩) (fun _ c c' x hc h=>by rw [<- hc 0 (by decide)]; exact h) h hw
theorem str_of_trod {fuel:Nat} {v:Value} {y:DataW H × List MemPlace} (h:DataW.trod enc Tryz.prog W 0 (fun _=>true) true fuel 9 [v] = some y) (hw:X6d 9 y.1):∃ s,v = .string s /\ Short s:=by
 obtain ⟨s,h1,rfl,_⟩:=DataW.trod_string Tryz.underlying9 h;refine ⟨s,by simpa using h1,?_⟩
 have:=hw s.data.toList.length (by simp [DataW.weights])
 have e:s.data.toList.length = s.size:=Array.length_toList;unfold Short;omega
theorem int_of_trod {fuel:Nat} {v:Value} {y:DataW H × List MemPlace} (h:DataW.trod enc Tryz.prog W 0 (fun _=>true) true fuel 3 [v] = some y):∃ z,v = .int .i64 z:=by
 obtain ⟨z,h1,_,_⟩:=DataW.trod_int Tryz.underlying3 h;exact ⟨z,by simpa using h1⟩
theorem Q4o {t:TypeId} {ts:List TypeId} {d:DataW H} {ds:List (DataW H)} (h:∀ x ∈ DataW.weightsEach Tryz.prog (t :: ts) (d :: ds),x <= 140737488351232):X6d t d /\ ∀ x ∈ DataW.weightsEach Tryz.prog ts ds,x <= 140737488351232:=by
 rw [DataW.weightsEach] at h;exact ⟨fun x hx=>h x (List.mem_append_left _ hx),fun x hx=>h x (List.mem_append_right _ hx)⟩
theorem Tryz.cS:Tryz.prog.cellsOf 9 = 1:=by kernel_rfl
theorem Tryz.cI:Tryz.prog.cellsOf 44 = 1:=by kernel_rfl
theorem Y9h {t:TypeId} {f0 f1 f2 f3 f4:Field} {fuel:Nat} {cs:List Value} {x:DataW H × List MemPlace} (ht:Tryz.prog.underlying t = some (.struct #[f0,f1,f2,f3,f4])) (h:DataW.trod enc Tryz.prog W 0 (fun _=>true) true fuel t cs = some x) :
    ∃ y0 y1 y2 y3 y4 n,x = (.agg [y0.1,y1.1,y2.1,y3.1,y4.1],y0.2 ++ (y1.2 ++ (y2.2 ++ (y3.2 ++ y4.2)))) /\ cs.length = Tryz.prog.cellsOf t /\ DataW.trod enc Tryz.prog W 0 (fun _=>true) true n f0.type ((cs.drop f0.offset).take (Tryz.prog.cellsOf f0.type)) = some y0 /\
     DataW.trod enc Tryz.prog W 0 (fun _=>true) true n f1.type ((cs.drop f1.offset).take (Tryz.prog.cellsOf f1.type)) = some y1 /\ DataW.trod enc Tryz.prog W 0 (fun _=>true) true n f2.type ((cs.drop f2.offset).take (Tryz.prog.cellsOf f2.type)) = some y2 /\
     DataW.trod enc Tryz.prog W 0 (fun _=>true) true n f3.type ((cs.drop f3.offset).take (Tryz.prog.cellsOf f3.type)) = some y3 /\ DataW.trod enc Tryz.prog W 0 (fun _=>true) true n f4.type ((cs.drop f4.offset).take (Tryz.prog.cellsOf f4.type)) = some y4:=by
 obtain ⟨xs,n,_,rfl,hl,hlen,hf⟩:=DataW.trod_struct ht h
 match xs,hlen with
 | [y0,y1,y2,y3,y4],_=>exact ⟨y0,y1,y2,y3,y4,n,by simp,hl,by simpa using hf 0 f0 rfl,by simpa using hf 1 f1 rfl,by simpa using hf 2 f2 rfl,by simpa using hf 3 f3 rfl,by simpa using hf 4 f4 rfl⟩
theorem Tryz.cMb:Tryz.prog.cellsOf 77 = 5:=by kernel_rfl
theorem Tryz.bMb:Tryz.prog.bytesOf 77 = 96:=by kernel_rfl
theorem Z0b {fuel:Nat} {v:Value} {y:DataW H × List MemPlace} (h:DataW.trod enc Tryz.prog W 0 (fun _=>true) true fuel 53 [v] = some y) (hw:X6d 53 y.1):∃ l,X1g W v l :=
 X6i (α:=Mem) Tryz.underlying53 Tryz.cMb (by decide) Tryz.bMb (by decide) (fun cs y n hl h hw=>by
  obtain ⟨y0,y1,y2,y3,y4,m,rfl,_,h0,h1,h2,h3,h4⟩:=Y9h Tryz.underlying77 h
  match cs,hl with
  | [c0,c1,c2,c3,c4],_ =>
    have hw2:∀ x ∈ DataW.weightsEach Tryz.prog [9,3,44,44,44] [y0.1,y1.1,y2.1,y3.1,y4.1],x <= 140737488351232:=fun x hx=>hw x (by simpa [DataW.weights,Tryz.underlying77] using hx)
    obtain ⟨w0,r0⟩:=Q4o hw2;obtain ⟨_,r1⟩:=Q4o r0;obtain ⟨w2,r2⟩:=Q4o r1;obtain ⟨w3,r3⟩:=Q4o r2;obtain ⟨w4,_⟩:=Q4o r3;have h0':DataW.trod enc Tryz.prog W 0 (fun _=>true) true m 9 [c0] = some y0:=by simpa [Tryz.cS,Tryz.c3,Tryz.cI] using h0
    have h1':DataW.trod enc Tryz.prog W 0 (fun _=>true) true m 3 [c1] = some y1:=by simpa [Tryz.cS,Tryz.c3,Tryz.cI] using h1
    have h2':DataW.trod enc Tryz.prog W 0 (fun _=>true) true m 44 [c2] = some y2:=by simpa [Tryz.cS,Tryz.c3,Tryz.cI] using h2
    have h3':DataW.trod enc Tryz.prog W 0 (fun _=>true) true m 44 [c3] = some y3:=by simpa [Tryz.cS,Tryz.c3,Tryz.cI] using h3
    have h4':DataW.trod enc Tryz.prog W 0 (fun _=>true) true m 44 [c4] = some y4:=by simpa [Tryz.cS,Tryz.c3,Tryz.cI] using h4
    obtain ⟨s,rfl,hs⟩:=str_of_trod h0' w0;obtain ⟨z,rfl⟩:=int_of_trod h1';obtain ⟨l2,hl2⟩:=Q6y h2' w2;obtain ⟨l3,hl3⟩:=Q6y h3' w3;obtain ⟨l4,hl4⟩:=Q6y h4' w4;exact ⟨⟨s,z,l2,l3,l4⟩,rfl,rfl,hl2,hl3,hl4,hs⟩)
  (fun _ c c' x hc h=>⟨by rw [<- hc 0 (by decide)]; exact h.1,by rw [<- hc 1 (by decide)]; exact h.2.1,by rw [<- hc 2 (by decide)]; exact h.2.2.1,by rw [<- hc 3 (by decide)]; exact h.2.2.2.1,by rw [<- hc 4 (by decide)]; exact h.2.2.2.2.1,h.2.2.2.2.2⟩) h hw
theorem Tryz.cSn:Tryz.prog.cellsOf 55 = 3:=by kernel_rfl
theorem Y1f {b0:Nat} {v:Value} {d:DataW H} {ps:List MemPlace} (hv:Value.okWide Tryz.prog W .any b0 55 v) (h:DataW.Trod enc Tryz.prog W 0 (fun _=>true) true 55 v d ps) (hw:X6d 55 d):∃ t,Q0p W v t:=by
 obtain ⟨cs,rfl,hsz⟩:=okWide_struct Tryz.underlying55 hv;rw [Tryz.cSn] at hsz;obtain ⟨c0,c1,c2,rfl⟩:∃ a b c,cs = #[a,b,c]:=by
  obtain ⟨l⟩:=cs
  match l,hsz with
  | [a,b,c],_=>exact ⟨a,b,c,rfl⟩
 obtain ⟨fuel,hf⟩:=h;obtain ⟨y0,y1,y2,m,hx,_,h0,h1,h2⟩:=trod_struct3 Tryz.underlying55 hf;simp only [Prod.mk.injEq] at hx;obtain ⟨rfl,_⟩:=hx;have hw2:∀ x ∈ DataW.weightsEach Tryz.prog [3,44,53] [y0.1,y1.1,y2.1],x <= 140737488351232:=fun x hx=>hw x (by simpa [DataW.weights,Tryz.underlying55] using hx)
 obtain ⟨_,r0⟩:=Q4o hw2;obtain ⟨w1,r1⟩:=Q4o r0;obtain ⟨w2,_⟩:=Q4o r1;have e2:Tryz.prog.cellsOf 53 = 1:=by kernel_rfl
 have h0':DataW.trod enc Tryz.prog W 0 (fun _=>true) true m 3 [c0] = some y0:=by simpa [Tryz.c3,Tryz.cI,e2,Value.cells] using h0
 have h1':DataW.trod enc Tryz.prog W 0 (fun _=>true) true m 44 [c1] = some y1:=by simpa [Tryz.c3,Tryz.cI,e2,Value.cells] using h1
 have h2':DataW.trod enc Tryz.prog W 0 (fun _=>true) true m 53 [c2] = some y2:=by simpa [Tryz.c3,Tryz.cI,e2,Value.cells] using h2
 obtain ⟨z,rfl⟩:=int_of_trod h0';obtain ⟨b,hb⟩:=Q6y h1' w1;obtain ⟨c,hc⟩:=Z0b h2' w2;exact ⟨⟨z,b,c⟩,_,_,rfl,⟨hb,hc⟩⟩
end
end Go.Proofs
namespace Go.Proofs.YtodinjclfmiohaaGreat
open Go.ChangeShapes Go.WideShapes Go.ChangeAt Go.RowKit Go.Tw
theorem own:ownKnob Tryz.prog.godebug = none:=by kernel_rfl
theorem laidOut:laidOutB Tryz.prog = true:=by kernel_rfl
theorem J7h {H:Type} {enc:TypeId × Value -> H} {a:Assume} {C:Checked} {os:Os} {f:FuncId} {fn:Func} {s:ChangeSpec} {conds:List PathCond} {apart fresh handsOn again:Bool}
    (own:ownKnob C.prog.godebug = none) (started:os.Started) (noInit:C.prog.inits.idxOf? f = none) (hfn:C.prog.funcs[f]? = some fn)
    (witness:∃ (w:World) (tape:Tape) (i:Input),w.os = os /\ (w.forCall tape i).Shaped C.prog /\ i.vars = [] /\ Input.okWide C.prog (w.forCall tape i) .any w.heap.size f i /\
     s.pre6 enc C.prog fn conds apart (w.forCall tape i).memory i.args /\ a.holds C.prog (lone (Frame.enter C.prog f i.args .normal) [] (w.forCall tape i)))
    (contract:∀ (W:World) (base:Nat) (args:Array Value) (ds gs:List (DataW H)) (before:List MemPlace),
     (∀ (j:Nat) t v,fn.params[j]? = some t -> args[j]? = some v -> Value.okWide C.prog W .any base t v) ->
     DataW.Whole enc C.prog fn.params.toList s.vars apart W args.toList ds gs before ->
     (DataW.weightsEach C.prog (fn.params.toList ++ s.plain.varTypes C.prog) (ds ++ gs)).all (· <= reachBytes) = true ->
     Calls C.prog f args W fun e W'=>∃ v,e = .returned v /\ s.post enc C.prog fn apart fresh handsOn again W args v W') :
    ReturnsInHanded a C os f .any (s.pre6 enc C.prog fn conds apart) (s.post enc C.prog fn apart fresh handsOn again):=by
 refine returnsInHanded_of_calls own started noInit witness ?_;intro w tape i _ _ _ hok hpre hholds;obtain ⟨_,_,_,fn',hfn',_,_,_,_,hval⟩:=hok;have e:fn' = fn:=Option.some.inj (hfn'.symm.trans hfn);subst e;obtain ⟨⟨ds,gs,before,hw,hc⟩,hz⟩:=hpre;have hw':=DataW.Whole.of_heap (w':=w.forCall tape i) (by rfl) hw
 refine (contract (w.forCall tape i) w.heap.size i.args ds gs before hval hw' (hz.weights hw)).mono fun e W' ⟨v,he,hp⟩=>?_;subst he;exact ChangeSpec.post_blind hp
theorem X1j {a b:Bool} (h:a = true) (k:b = true):(a && b) = true:=by rw [h,k]; rfl
theorem J9m {a b:Bool} (h:(a && b) = true):a = true:=by cases a <;> simp_all
theorem K0a {a b:Bool} (h:(a && b) = true):b = true:=by cases a <;> simp_all
theorem Z8b (P:Program) (f:FuncId) (fn:Func) (s:ChangeSpec) (c:OpenClaim)
    (k0:(c.wf (OpenSpec.ofChange s):Bool) = true)
    (k1:(laidOutB P:Bool) = true)
    (k2:(mapsRowed P:Bool) = true)
    (k3:(fn.params.all (P.readableRec ·):Bool) = true)
    (k4:(namedTie P c.named s.vars:Bool) = true)
    (k5:((c.stops == []):Bool) = true)
    (k6:((P.stops == []):Bool) = true)
    (k7:((c.knobs == []):Bool) = true)
    (k8:((P.stopKnobs == []):Bool) = true)
    (k9:((c.inPlace == P.inPlace f):Bool) = true)
    (k10:((c.unfollowed == P.unfollowed f):Bool) = true)
    (k11:((c.recurses == P.recurses f):Bool) = true)
    (k12:((c.named == P.varsNamed f):Bool) = true)
    (k13:((c.maps == (fn.params.toList ++ s.plain.varTypes P).any (P.mapsRec ·)):Bool) = true)
    (k14:((c.ifaces == (fn.params.toList ++ s.plain.varTypes P).any (P.ifacesRec ·)):Bool) = true)
    (k15:((c.mapsOut == P.mapsAmong fn.resultTypes.toList):Bool) = true)
    (k16:((c.loops == (fn.params.toList ++ s.plain.varTypes P).any (P.loopsFrom ·)):Bool) = true)
    (k17:((c.wideKeys == (fn.params.toList ++ s.plain.varTypes P ++ fn.resultTypes.toList).any (P.wideKeysFrom ·)):Bool) = true)
    (k18:(s.vars.all (P.varReadable ·):Bool) = true)
    (k19:(fn.resultTypes.all (fun t=>P.readableRec t && decide (t < P.types.size)):Bool) = true)
    (k20:((c.ifacesOut == fn.resultTypes.toList.any (P.ifacesRec ·)):Bool) = true)
    (k21:((c.loopsOut == fn.resultTypes.toList.any (P.loopsFrom ·)):Bool) = true)
    (k22:((c.plainKeys == P.plainKeys):Bool) = true)
    (k23:(c.shortTexts.isNone:Bool) = true)
    (k24:(P.stopsHeard:Bool) = true)
    (k25:(P.mayEnter:Bool) = true)
    (k26:((c.lifted == P.liftsFinal):Bool) = true)
    (k27:((P.make == some c.make):Bool) = true)
    (k28:(c.domain.isEmpty && (c.kinds == []):Bool) = true)
    (k29:((c.pinned == c.pinnedBy):Bool) = true)
    (k30:((c.veiled == (fn.params.toList ++ s.plain.varTypes P ++ fn.resultTypes.toList).any (P.veiledRec ·)):Bool) = true)
    (k31:(c.veiledFits P fn.params.toList (fn.params.toList ++ s.plain.varTypes P ++ fn.resultTypes.toList):Bool) = true)
   :joinedFacts P f fn s c = true:=by unfold joinedFacts; exact X1j (X1j (X1j (X1j (X1j (X1j (X1j (X1j (X1j (X1j (X1j (X1j (X1j (X1j (X1j (X1j (X1j (X1j (X1j (X1j (X1j (X1j (X1j (X1j (X1j (X1j (X1j (X1j (X1j (X1j (X1j (k0) k1) k2) k3) k4) k5) k6) k7) k8) k9) k10) k11) k12) k13) k14) k15) k16) k17) k18) k19) k20) k21) k22) k23) k24) k25) k26) k27) (by rw [if_pos (J9m k28)]; exact K0a k28)) k29) k30) k31
theorem J7k:(laidOutB Tryz.prog:Bool) = true:=by kernel_rfl
theorem J6z:(mapsRowed Tryz.prog:Bool) = true:=by kernel_rfl
theorem J5y:((Tryz.prog.stops == []):Bool) = true:=by kernel_rfl
theorem J5u:((Tryz.prog.stopKnobs == []):Bool) = true:=by kernel_rfl
theorem J2q:(Tryz.prog.stopsHeard:Bool) = true:=by kernel_rfl
theorem J2d:(Tryz.prog.mayEnter:Bool) = true:=by kernel_rfl
end Go.Proofs.YtodinjclfmiohaaGreat
namespace Go.Tw
open Go.RowKit
def Q0i {α:Type} (w:World) (base:Nat) (e:TypeId) (enc:α -> Value) (v:Value) (l:List α):Prop:=w.ownsRow base e 1 v l.length (l.map enc)
theorem Q0i.nil {α:Type} (w:World) (base:Nat) (e:TypeId) (enc:α -> Value):Q0i w base e enc (.slice none 0 0) []:=World.ownsRow_nil w base e 1
theorem Q0i.row {α:Type} {w:World} {base:Nat} {e:TypeId} {enc:α -> Value} {v:Value} {l:List α} (h:Q0i w base e enc v l) (hl:l.length <= 17592186043904) (c:Nat -> Value)
    (hc:∀ k (hk:k < l.length),c k = enc l[k]):Row w v l.length 1 c:=by
 obtain ⟨_,h2⟩:=h
 rcases h2 with ⟨rfl,h0⟩ | ⟨g,cap,cur,rfl,_,hg,hcap,_,_,htake⟩
 . exact ⟨none,0,by rw [h0],hl,by omega,fun j hj=>by omega⟩
 . refine ⟨some ⟨g,0,none⟩,cap,rfl,hl,hcap,fun j hj=>⟨g,0,rfl,?_⟩⟩
   have hj':j < l.length:=by omega
   rw [Nat.zero_add];have h1:=congrArg (fun l=>l[j]?) htake;simp only [Nat.mul_one,List.getElem?_take,hj',if_true,List.getElem?_map,List.getElem?_eq_getElem hj',Option.map_some] at h1;simp only [World.cell?,hg,hc j hj']
   simpa using h1
theorem Q0i.rows {α:Type} {w:World} {base:Nat} {e:TypeId} {enc:α -> Value} {v:Value} {l:List α} {R:World -> (Nat -> Value) -> α -> Prop} (h:Q0i w base e enc v l) (hl:l.length <= 17592186043904)
    (hR:∀ x ∈ l,R w (fun _=>enc x) x) (hloc:∀ c c' x,c 0 = c' 0 -> R w c x -> R w c' x):Rows 1 R w v l:=by
 refine ⟨fun k=>((l.map enc)[k]?).getD undef,h.row hl _ (fun k hk=>by simp [hk]),fun j hj=>hloc _ _ _ ?_ (hR _ (List.getElem_mem hj))⟩
 simp [hj]
theorem Q0i.ints {w:World} {base:Nat} {e:TypeId} {v:Value} {l:List Int} (h:Q0i w base e (Value.int .i64) v l) (hl:l.length <= 17592186043904):Q0e w v l :=
 h.rows hl (fun _ _=>rfl) (fun _ _ _ h h'=>h ▸ h')
theorem Q0i.bools {w:World} {base:Nat} {e:TypeId} {v:Value} {l:List Bool} (h:Q0i w base e Value.bool v l) (hl:l.length <= 17592186043904):Q2k w v l :=
 h.rows hl (fun _ _=>rfl) (fun _ _ _ h h'=>h ▸ h')
theorem Q0i.below {α:Type} {w w':World} {base:Nat} {e:TypeId} {enc:α -> Value} {v:Value} {l:List α} (h:Q0i w base e enc v l) (hx:Ext w w'):Q0i w' base e enc v l:=by
 obtain ⟨h1,h2⟩:=h;refine ⟨h1,?_⟩
 rcases h2 with h2 | ⟨g,cap,cur,hv,hb,hg,r⟩
 . exact .inl h2
 . refine .inr ⟨g,cap,cur,hv,hb,?_,r⟩
   rw [Below.block hx g (Array.getElem?_eq_some_iff.1 hg).1]; exact hg
theorem Q0i.snoc {α:Type} {w:World} {base:Nat} {e:TypeId} {enc:α -> Value} {v:Value} {l:List α} {x:α} (h:w.ownsRow base e 1 v (l.length + 1) (l.map enc ++ [enc x])):Q0i w base e enc v (l ++ [x]):=by
 unfold Q0i; simpa using h
theorem Q3b {w wr w':World} {v:Value} {base:Nat} {e:TypeId} {n size:Nat} {xs:List Value} {o:Obj} (hx:Ext w wr) (hown:wr.ownsRow base e size v n xs) (hb:w.heap.size <= base) (hg:(wr.alloc o).grownBy w' v.ownBlock):Ext w w' :=
 Below.grown (hx.alloc o) hg (by have:=hx.size; simp; omega) (fun k hk=>by have:=(hown.lt k hk).1; omega)
theorem Q4p (w:World) (x:Value) (e:TypeId):∀ j u,[x][j]? = some u -> (w.alloc (.cells #[x] e)).cell? ((⟨w.heap.size,0,none⟩:Addr).add j) = some u:=by
 intro j u h;cases j with
 | zero =>
   simp only [List.getElem?_cons_zero,Option.some.injEq] at h;subst h;show (w.alloc (.cells #[x] e)).cell? ⟨w.heap.size,0,none⟩ = some x;rw [World.cell?_alloc_at _ _ _ _ rfl];rfl
 | succ j=>simp at h
theorem Q3q {l:List Int} {k:Nat} (h:k < l.length):l.drop k = ix l k :: l.drop (k + 1):=by rw [Q5p h]; exact List.drop_eq_getElem_cons h
end Go.Tw
namespace Go.Proofs
open Go.RowKit Go.Tw
theorem Tryz.info3:(Tryz.prog.info? 3).map (fun i=>(i.zero,i.size,i.bytes)) = some (some (.int .i64 0),1,8):=by kernel_rfl
theorem Z9t (w:World) (v:Value) (l:List Int) (hv:Q0e w v l) :
    Calls Tryz.prog 89 #[v] w fun e w'=>e = .returned (.int .i64 (Q0k l)) /\ w = w':=by
 obtain ⟨A,cap,rfl,hl,hcap,hc⟩:=hv.opened;clear hv;go_enter Tryz.func89,Tryz.ntmps89;go_wp2
 go_loop [3] (fun i=>∃ k:Nat,k <= l.length /\ i = .int .i64 k /\ Q0k (l.drop k) = Q0k l) (fun i=>l.length - (intOf i).toNat)
 case atStart=>exact ⟨0,Nat.zero_le _,rfl,rfl⟩
 case round =>
  obtain ⟨k,hk,rfl,hr⟩:=hrel;have HR:=Lib.hid hr; clear hr
  by_cases hlt:k < l.length
  . obtain ⟨b,off,rfl,hcell⟩:=hc k hlt
    clear hc
    by_cases hx:ix l k = 0
    . have HX:=Lib.hid hx
      have hx1:(ix l k != 0) = false:=by simp [hx]
      clear hx;go_wp2;go_round
      case rel=>exact ⟨k + 1,by omega,by go_num,by rw [<- HR.out,Q3q hlt,Q0k,if_pos HX.out]⟩
      case measure=>simp [intOf]; omega
    . have hx1:(ix l k != 0) = true:=by simp [hx]
      have HX:=Lib.hid hx; clear hx;go_wp2;go_ret;exact ⟨Q1c (by rw [<- HR.out,Q3q hlt,Q0k,if_neg HX.out]),rfl⟩
  . clear hc
    go_wp2;go_ret;exact ⟨Q1c (by rw [<- HR.out,List.drop_eq_nil_of_le (by omega)]; rfl),rfl⟩
theorem Q2h (w:World) (x a b:Int) :
    Calls Tryz.prog 37 #[.int .i64 x,.int .i64 a,.int .i64 b] w fun e w'=>e = .returned (.int .i64 (Q0g x a b)) /\ w = w':=by
 unfold Q0g
 by_cases h1:x < a
 . rw [if_pos (.inl h1)]
   go_enter Tryz.func37,Tryz.ntmps37;go_wp2;go_ret;exact ⟨rfl,rfl⟩
 . by_cases h2:b < x
   . rw [if_pos (.inr h2)]
     go_enter Tryz.func37,Tryz.ntmps37;go_wp2;go_ret;exact ⟨rfl,rfl⟩
   . rw [if_neg (by omega)]
     go_enter Tryz.func37,Tryz.ntmps37;go_wp2;go_ret;exact ⟨rfl,rfl⟩
end Go.Proofs
namespace Go.Flow
open Go.RowKit
def upd (v:Nat -> Value) (j:Nat) (u:Value):Nat -> Value:=fun k=>if k = j then u else v k
def mask (pre:Nat -> List Nat) (k:Nat) (v:Nat -> Value):Nat -> Value:=fun i=>if (i == k || (pre k).contains i) = true then v i else undef
def act (X:Nat -> Bool) (v:Nat -> Value):List Oper -> Nat -> Act -> Act
 | [],_,a=>a
 | o :: l,i,a=>act X v l (i + 1) (if X i then a.put o.dst (v i) else a)
theorem Q8q (a:Act) (d:Option Tmp) (u:Value):(a.put d u).tmps.size = a.tmps.size:=by cases d <;> simp [Act.put]
theorem put_defers (a:Act) (d:Option Tmp) (u:Value):(a.put d u).defers = a.defers:=by cases d <;> rfl
theorem X7i (X:Nat -> Bool) (v:Nat -> Value):∀ (l:List Oper) (i:Nat) (a:Act),(act X v l i a).tmps.size = a.tmps.size
 | [],_,_=>rfl
 | o :: l,i,a=>by rw [act,X7i X v l]; split <;> simp [Q8q]
theorem Q1w (X:Nat -> Bool) (v:Nat -> Value):∀ (l:List Oper) (i:Nat) (a:Act),(act X v l i a).defers = a.defers
 | [],_,_=>rfl
 | o :: l,i,a=>by rw [act,Q1w X v l]; split <;> simp [put_defers]
theorem X5n (a:Act) (d:Option Tmp) (u:Value) (t:Tmp) (h:d ≠ some t):(a.put d u).tmps[t]? = a.tmps[t]?:=by
 cases d with
 | none=>rfl
 | some d=>simp only [Act.put]; exact Array.getElem?_setIfInBounds_ne (fun e=>h (by rw [e]))
theorem X0p (a:Act) (u:Value) (t:Tmp) (h:t < a.tmps.size):(a.put (some t) u).tmps[t]? = some u:=by
 simp [Act.put,h]
theorem Q4m (X Y:Nat -> Bool) (v v':Nat -> Value) (t:Tmp):∀ (l:List Oper) (i:Nat) (a a':Act),a.tmps.size = a'.tmps.size -> a.tmps[t]? = a'.tmps[t]? ->
    (∀ k o,l[k]? = some o -> o.dst = some t -> X (i + k) = Y (i + k) /\ (X (i + k) = true -> v (i + k) = v' (i + k))) ->
    (act X v l i a).tmps[t]? = (act Y v' l i a').tmps[t]?
 | [],_,_,_,_,h,_=>h
 | o :: l,i,a,a',hs,h,hk=>by
   rw [act,act];refine Q4m X Y v v' t l (i + 1) _ _ (by split <;> split <;> simp [Q8q,hs]) ?_ (fun k o' ho hd=>by have:=hk (k + 1) o' (by simpa using ho) hd; rwa [show i + (k + 1) = i + 1 + k from by omega] at this)
   by_cases hd:o.dst = some t
   . obtain ⟨h1,h2⟩:=hk 0 o rfl hd
     simp only [Nat.add_zero] at h1 h2;rw [<- h1]
     split
     . rename_i hx
       rw [hd,h2 hx]
       rcases Nat.lt_or_ge t a.tmps.size with hl | hl
       . rw [X0p _ _ _ hl,X0p _ _ _ (hs ▸ hl)]
       . rw [Array.getElem?_eq_none (by rw [Q8q]; exact hl),Array.getElem?_eq_none (by rw [Q8q,<- hs]; exact hl)]
     . exact h
   . have e1:(if X i = true then a.put o.dst (v i) else a).tmps[t]? = a.tmps[t]?:=by split <;> first | exact X5n _ _ _ _ hd | rfl
     have e2:(if Y i = true then a'.put o.dst (v' i) else a').tmps[t]? = a'.tmps[t]?:=by split <;> first | exact X5n _ _ _ _ hd | rfl
     rw [e1,e2,h]
theorem Z4h (X:Nat -> Bool) (v:Nat -> Value) (t:Tmp):∀ (l:List Oper) (i:Nat) (a:Act) (j:Nat) (o:Oper),t < a.tmps.size -> l[j]? = some o -> o.dst = some t -> X (i + j) = true ->
    (∀ k o',j < k -> l[k]? = some o' -> o'.dst = some t -> X (i + k) = false) -> (act X v l i a).tmps[t]? = some (v (i + j))
 | [],_,_,_,_,_,h,_,_,_=>by simp at h
 | o :: l,i,a,0,o',hs,h,hd,hX,hk=>by
   simp only [List.getElem?_cons_zero,Option.some.injEq] at h;subst h;simp only [Nat.add_zero] at hX ⊢;rw [act,if_pos hX,Q4m X (fun _=>false) v v t l (i + 1) _ (a.put o.dst (v i)) rfl rfl (fun k o' ho hd'=>by
    have:=hk (k + 1) o' (by omega) (by simpa using ho) hd'
    rw [show i + (k + 1) = i + 1 + k from by omega] at this
    exact ⟨this,fun h=>by simp [this] at h⟩)]
   have:∀ (l:List Oper) (i:Nat) (a:Act),act (fun _=>false) v l i a = a:=by
    intro l; induction l with
    | nil=>intro i a; rfl
    | cons o l ih=>intro i a; simp [act,ih]
   rw [this,hd]; exact X0p _ _ _ hs
 | o :: l,i,a,j + 1,o',hs,h,hd,hX,hk=>by
   rw [act];have:=Z4h X v t l (i + 1) (if X i then a.put o.dst (v i) else a) j o' (by split <;> simp [Q8q,hs]) (by simpa using h) hd (by rwa [show i + 1 + j = i + (j + 1) from by omega])
    (fun k o'' hlt ho hd'=>by have:=hk (k + 1) o'' (by omega) (by simpa using ho) hd'; rwa [show i + (k + 1) = i + 1 + k from by omega] at this)
   rw [this]; congr 2; omega
theorem Q8u {a b:Act} (hd:a.defers = b.defers) (h:∀ t:Nat,a.tmps[t]? = b.tmps[t]?):a = b:=by
 obtain ⟨ta,da⟩:=a; obtain ⟨tb,db⟩:=b;simp only at hd h;subst hd
 congr
 exact Array.ext_getElem? h
def okB (ops:Array Oper) (pre:Nat -> List Nat):Bool :=
 Region.noSelect ops &&
 (List.range ops.size).all fun j=>match ops[j]? with
  | none=>true
  | some oj =>
    (oj.after.toList.all fun e=>!Region.binds .any e || decide (e.on < j)) &&
    ((pre j).all fun i=>oj.after.toList.any fun e=>Region.binds .any e && (e.on == i || (pre e.on).contains i)) &&
    (List.range j).all fun i=>match ops[i]? with
     | none=>true
     | some oi=>oi.apart ops oj || (pre j).contains i
structure Ok (ops:Array Oper) (pr:Nat -> List Nat):Prop where
 sel:∀ (j:Nat) (o:Oper) (cs:Array SelectCase) (b:Bool),ops[j]? = some o -> o.op ≠ .select cs b
 edge:∀ j o,ops[j]? = some o -> ∀ e ∈ o.after,Region.binds .any e = true -> e.on < j
 pre:∀ j o,ops[j]? = some o -> ∀ i ∈ pr j,∃ e ∈ o.after,Region.binds .any e = true /\ (e.on = i ∨ i ∈ pr e.on)
 apart:∀ i j oi oj,i < j -> ops[i]? = some oi -> ops[j]? = some oj -> oi.apart ops oj = true ∨ i ∈ pr j
theorem J3v {ops:Array Oper} {pre:Nat -> List Nat} (h:okB ops pre = true):Ok ops pre:=by
 simp only [okB,Bool.and_eq_true,List.all_eq_true,List.mem_range] at h;obtain ⟨hs,h⟩:=h;have hj:∀ j o,ops[j]? = some o -> j < ops.size:=fun j o ho=>(Array.getElem?_eq_some_iff.1 ho).1;refine ⟨Region.noSelect_spec hs,fun j o ho e he hb=>?_,fun j o ho i hi=>?_,fun i j oi oj hij hoi hoj=>?_⟩
 . have:=h j (hj j o ho)
   simp only [ho,Bool.and_eq_true,List.all_eq_true] at this;have:=this.1.1 e (Array.mem_toList_iff.2 he)
   simpa [hb] using this
 . have:=h j (hj j o ho)
   simp only [ho,Bool.and_eq_true,List.all_eq_true] at this;have:=this.1.2 i hi;simp only [List.any_eq_true,Bool.and_eq_true,Bool.or_eq_true,beq_iff_eq,List.contains_iff_mem] at this;obtain ⟨e,he,hb,hc⟩:=this;exact ⟨e,Array.mem_toList_iff.1 he,hb,hc⟩
 . have:=h j (hj j oj hoj)
   simp only [hoj,Bool.and_eq_true,List.all_eq_true,List.mem_range] at this;have:=this.2 i hij;simp only [hoi,Bool.or_eq_true,List.contains_iff_mem] at this;exact this
section
variable {P:Program} {ops:Array Oper} {pre:Nat -> List Nat}
theorem eval_congr {a b:Act} (o:Oper) (h:∀ t ∈ o.looksAt ops,a.tmps[t]? = b.tmps[t]?):∀ x ∈ o.op.operands,a.eval x = b.eval x:=fun x hx=>by
 cases x with
 | tmp t =>
   have:=h t (List.mem_append_left _ (List.mem_filterMap.2 ⟨.tmp t,by simpa using hx,rfl⟩))
   simp [Act.eval,this]
 | _=>rfl
theorem Q6v {a b:Act} (o:Oper) (h:∀ t ∈ o.looksAt ops,a.tmps[t]? = b.tmps[t]?):Region.wanted o (yielded ops a.tmps) = Region.wanted o (yielded ops b.tmps):=by
 unfold Region.wanted;cases hg:o.guard with
 | none=>rfl
 | some gw =>
   obtain ⟨g,want⟩:=gw;have hy:yielded ops a.tmps g = yielded ops b.tmps g:=by
    unfold yielded;cases ht:(ops[g]?).bind (·.dst) with
    | none=>rfl
    | some t =>
      have:=h t (by simp [Oper.looksAt,hg,ht])
      simp [this]
   simp only [hy]
def gives (P:Program) (G:Value -> World -> Prop):Result Next -> Prop
 | .ok (.value v) w'=>G v w'
 | .ok .skip w'=>G undef w'
 | .ok (.enter f args) w'=>Calls P f args w' fun e w''=>∃ u,e = .returned u /\ G u w''
 | .ok (.row row args) w'=>Rows P row args w' fun v w''=>G v w''
 | _=>False
theorem Q3k {G G':Value -> World -> Prop} (h:∀ v w,G v w -> G' v w) {r:Result Next} (hr:gives P G r):gives P G' r:=by
 cases r with
 | ok n w =>
   cases n <;> simp only [gives] at hr ⊢
   case value=>exact h _ _ hr
   case skip=>exact h _ _ hr
   case enter=>exact hr.mono fun e w ⟨u,he,hu⟩=>⟨u,he,h _ _ hu⟩
   case row=>exact hr.mono fun v w hu=>h _ _ hu
 | halt x w=>exact hr
theorem Q1l {o:Oper} {a:Act} {K:Act -> World -> Prop} {Q:Exit -> Act -> World -> Prop} {r:Result Next} (h:gives P (fun v w=>K (a.put o.dst v) w) r):o.upon P a K Q r:=by
 cases r with
 | ok n w =>
   cases n <;> simp only [gives,Oper.upon] at h ⊢
   case value=>exact h
   case skip=>exact h
   case enter=>exact h.mono fun e w ⟨u,he,hu⟩=>by subst he; exact hu
   case row=>exact h
 | halt x w=>exact h.elim
inductive Kind where
 | plain
 | world
 | last
abbrev Kind.p:=Kind.plain
abbrev Kind.w:=Kind.world
def vc (P:Program) (ops:Array Oper) (pre:Nat -> List Nat) (Rel:World -> World -> Prop) (D:Nat -> (Nat -> Value) -> World -> Prop) (T E:(Nat -> Value) -> World -> World -> Prop) (k:Kind) (o:Oper) (j:Nat) (b:Act) (v:Nat -> Value) (w1:World):Prop :=
 match k with
 | .plain=>(Region.wanted o (yielded ops b.tmps) = true /\ ∃ u,(∀ w,(execOp b.eval o).run P w = .ok (.value u) w) /\ D j (mask pre j (upd v j u)) w1) ∨ (Region.wanted o (yielded ops b.tmps) = false /\ D j (mask pre j (upd v j undef)) w1)
 | .world=>(Region.wanted o (yielded ops b.tmps) = true /\ gives P (fun u w'=>Rel w1 w' /\ D j (mask pre j (upd v j u)) w') ((execOp b.eval o).run P w1)) ∨ (Region.wanted o (yielded ops b.tmps) = false /\ D j (mask pre j (upd v j undef)) w1)
 | .last=>∀ w,T v w1 w -> (Region.wanted o (yielded ops b.tmps) = true /\ gives P (fun u w'=>E (mask pre j (upd v j u)) w1 w') ((execOp b.eval o).run P w)) ∨ (Region.wanted o (yielded ops b.tmps) = false /\ E (mask pre j (upd v j undef)) w1 w)
def Tail (pre:Nat -> List Nat) (tail:List Nat) (E:Nat -> (Nat -> Value) -> World -> World -> Prop):Nat -> (Nat -> Value) -> World -> World -> Prop
 | 0,_,w1,w=>w = w1
 | c + 1,v,w1,w=>E c (mask pre (tail.getD c 0) v) w1 w
def Made (P:Program) (o:Oper):Prop:=o.guard = none /\ ∀ (e:Operand -> Value) (w:World),∃ c,(execOp e o).run P w = .ok (.value (.pointer (some ⟨w.heap.size,0,none⟩))) (w.alloc c)
def J9p (news:List Nat) (v:Nat -> Value):Prop:=∀ i ∈ news,∀ k ∈ news,i ≠ k -> v i ≠ v k
structure Inv (ops:Array Oper) (pre:Nat -> List Nat) (Rel:World -> World -> Prop) (D:Nat -> (Nat -> Value) -> World -> Prop) (E:Nat -> (Nat -> Value) -> World -> World -> Prop) (tail:List Nat) (news:List Nat) (a0:Act) (w0:World) (X:Nat -> Bool) (v:Nat -> Value) (w1:World) (c:Nat) (a:Act) (w:World):Prop where
 act:a = act X v ops.toList 0 a0
 rel:Rel w0 w1
 facts:∀ k,X k = true -> k ∉ tail -> D k (mask pre k v) w1
 count:c <= tail.length
 before:∀ i (h:i < tail.length),i < c -> X tail[i] = true
 after:∀ i (h:i < tail.length),c <= i -> X tail[i] = false
 last:Tail pre tail E c v w1 w
 newIn:∀ i ∈ news,X i = true -> ∃ g,v i = .pointer (some ⟨g,0,none⟩) /\ g < w1.heap.size
 newNe:∀ i ∈ news,∀ k ∈ news,i ≠ k -> X i = true -> X k = true -> v i ≠ v k
theorem Q7g {j k:Nat} {v:Nat -> Value} {u:Value} (h1:j ≠ k) (h2:j ∉ pre k):mask pre k (upd v j u) = mask pre k v:=by
 funext i
 unfold mask upd
 split
 . rename_i h
   rw [if_neg];rintro rfl;simp only [Bool.or_eq_true,beq_iff_eq,List.contains_iff_mem] at h
   rcases h with h | h
   . exact h1 h
   . exact h2 h
 . rfl
theorem X7l {l:List Oper} {X:Nat -> Bool} {v:Nat -> Value} {a0:Act} {j:Nat} {o:Oper} {u:Value} (ho:l[j]? = some o) (hX:X j = false)
    (hlate:∀ k o',j < k -> l[k]? = some o' -> X k = true -> o'.dst ≠ o.dst ∨ o.dst = none) :
    (act X v l 0 a0).put o.dst u = act (fun k=>if k = j then true else X k) (upd v j u) l 0 a0:=by
 refine Q8u (by rw [put_defers,Q1w,Q1w]) fun t=>?_
 by_cases hd:o.dst = some t
 . rcases Nat.lt_or_ge t a0.tmps.size with hl | hl
   . rw [hd,X0p _ _ _ (by rw [X7i]; exact hl),Z4h _ _ t l 0 a0 j o hl ho hd (by simp) (fun k o' hk ho' hd'=>by
      rw [if_neg (by omega)]
      cases hx:X (0 + k) with
      | false=>rfl
      | true =>
        rw [Nat.zero_add] at hx
        rcases hlate k o' hk ho' hx with h | h
        . exact absurd (hd'.trans hd.symm) h
        . rw [h] at hd; cases hd)]
     simp [upd]
   . rw [Array.getElem?_eq_none (by rw [Q8q,X7i]; exact hl),Array.getElem?_eq_none (by rw [X7i]; exact hl)]
 . rw [X5n _ _ _ _ hd]
   refine Q4m _ _ _ _ t l 0 a0 a0 rfl rfl fun k o' ho' hd'=>?_;have hkj:¬ (0 + k = j):=by
    rw [Nat.zero_add]; rintro rfl;rw [ho] at ho'; cases ho'; exact hd hd'
   rw [if_neg hkj];exact ⟨rfl,fun _=>by simp only [upd]; rw [if_neg hkj]⟩
theorem Q2a {a:Array Bool} {j:Nat} (h:j < a.size):a.getD j true = a.getD j false:=by simp [h]
theorem Q1t (n k:Nat):(Array.replicate n false).getD k false = false:=by
 simp only [Array.getD_eq_getD_getElem?,Array.getElem?_replicate]
 split <;> rfl
def left (n:Nat) (listed:Array Bool):Nat:=(List.range n).countP fun i=>!listed.getD i true
theorem Q7b {n i:Nat} {listed:Array Bool} (_hn:listed.size = n) (hi:i < n) (h:listed.getD i true = false):left n (listed.setIfInBounds i true) < left n listed:=by
 unfold left;have h2:∀ m,m <= n -> (List.range m).countP (fun k=>!(listed.setIfInBounds i true).getD k true) + (if i < m then 1 else 0) = (List.range m).countP (fun k=>!listed.getD k true):=by
  intro m
  induction m with
  | zero=>intro _; simp
  | succ m ih =>
    intro hm;rw [List.range_succ,List.countP_append,List.countP_append,<- ih (by omega)]
    by_cases hmi:m = i
    . subst hmi
      have h':listed[m]?.getD true = false:=by simpa using h
      simp [h']
    . rw [List.countP_singleton,List.countP_singleton,getD_set_ne true (fun e=>hmi e.symm)]
      split <;> split <;> split <;> omega
 have:=h2 n (Nat.le_refl _);rw [if_pos hi] at this;omega
theorem Y1r (news:List Nat) (tail:List Nat) (kind:Nat -> Kind) {Rel:World -> World -> Prop} {D:Nat -> (Nat -> Value) -> World -> Prop} {E:Nat -> (Nat -> Value) -> World -> World -> Prop}
    {id:Nat} {Q:Exit -> Act -> World -> Prop} {a0:Act} {w:World} (hm:P.follows .mixedOrders = true) (hok:Ok ops pre)
    (htail:∀ i (h:i < tail.length),tail[i] < ops.size) (hchain:∀ i k (hi:i < tail.length) (hk:k < tail.length),i < k -> tail[i] ∈ pre tail[k])
    (hlate:∀ j,j < ops.size -> j ∉ tail -> ∀ k ∈ pre j,k ∉ tail) (hkind:∀ j,j < ops.size -> (kind j = .last ↔ j ∈ tail)) (hearly:∀ j,j < ops.size -> kind j = .world -> ∀ s ∈ tail,j ∈ pre s)
    (hrefl:∀ w,Rel w w) (htrans:∀ a b c,Rel a b -> Rel b c -> Rel a c) (hmono:∀ k,k < ops.size -> ∀ v w w',Rel w w' -> D k v w -> D k v w')
    (hvc:∀ j o,ops[j]? = some o -> j ∉ tail -> ∀ v w1,Rel w.drew w1 -> (∀ k ∈ pre j,D k (mask pre k v) w1) -> vc P ops pre Rel D (fun _ _ _=>False) (fun _ _ _=>False) (kind j) o j (act (fun k=>decide (k < j)) v ops.toList 0 a0) v w1)
    (hvl:∀ c (hc:c < tail.length) o,ops[tail[c]]? = some o -> ∀ v w1,Rel w.drew w1 -> (∀ k ∈ pre tail[c],k ∉ tail -> D k (mask pre k v) w1) -> vc P ops pre Rel D (Tail pre tail E c) (E c) .last o tail[c] (act (fun k=>decide (k < tail[c])) v ops.toList 0 a0) v w1)
    (hnews:∀ j ∈ news,j < ops.size /\ kind j = .world /\ ∀ o,ops[j]? = some o -> Made P o) (hrsz:∀ a b,Rel a b -> a.heap.size <= b.heap.size)
    (hpost:∀ v w1 w',Rel w.drew w1 -> J9p news v -> (∀ k,k < ops.size -> k ∉ tail -> D k (mask pre k v) w1) -> Tail pre tail E tail.length v w1 w' -> Q .normal (act (fun _=>true) v ops.toList 0 a0) w') :
    (Code.region id ops true).wp P Q a0 w:=by
 refine wp_region_any hm ?_;have hclosed:∀ (X:Nat -> Bool),(∀ j o,ops[j]? = some o -> X j = true -> ∀ e ∈ o.after,Region.binds .any e = true -> X e.on = true) ->
     ∀ j o,ops[j]? = some o -> (∀ e ∈ o.after,Region.binds .any e = true -> X e.on = true) -> ∀ i ∈ pre j,X i = true:=by
  intro X hX j
  induction j using Nat.strongRecOn with
  | _ j ih =>
    intro o ho hall i hi;obtain ⟨e,he,hb,hc⟩:=hok.pre j o ho i hi
    rcases hc with rfl | hc
    . exact hall e he hb
    . have hlt:=hok.edge j o ho e he hb
      have hj:j < ops.size:=(Array.getElem?_eq_some_iff.1 ho).1;have ho':ops[e.on]? = some ops[e.on]:=Array.getElem?_eq_getElem (by omega)
      exact ih e.on hlt _ ho' (hX e.on _ ho' (hall e he hb)) i hc
 have main:∀ (fuel:Nat) (listed:Array Bool) (a:Act) (wc:World),listed.size = ops.size -> left ops.size listed <= fuel ->
     (∀ j o,ops[j]? = some o -> listed.getD j false = true -> ∀ e ∈ o.after,Region.binds .any e = true -> listed.getD e.on false = true) ->
     (∃ v w1 c,Inv ops pre Rel D E tail news a0 w.drew (fun k=>listed.getD k false) v w1 c a wc) -> wpAny P .any ops Q fuel listed a wc:=by
  intro fuel;have hdone:∀ (listed:Array Bool) (a:Act) (wc:World),listed.size = ops.size ->
      (∃ v w1 c,Inv ops pre Rel D E tail news a0 w.drew (fun k=>listed.getD k false) v w1 c a wc) -> Region.ready .any ops listed = [] -> Q .normal a wc:=by
   rintro listed a wc hsz ⟨v,w1,c,hI⟩ hr;have hall:∀ j,j < ops.size -> listed.getD j false = true:=by
    intro j
    induction j using Nat.strongRecOn with
    | _ j ih =>
      intro hj;cases hx:listed.getD j false with
      | true=>rfl
      | false =>
        have hmem:j ∈ Region.ready .any ops listed:=mem_ready.2 ⟨by rw [Q2a (by omega)]; exact hx,ops[j],Array.getElem?_eq_getElem hj,fun e he hb =>
         have hlt:=hok.edge j _ (Array.getElem?_eq_getElem hj) e he hb
         ih e.on hlt (by omega)⟩
        rw [hr] at hmem;cases hmem
   have hact:a = act (fun _=>true) v ops.toList 0 a0:=by
    rw [hI.act];refine Q8u (by rw [Q1w,Q1w]) fun t=>Q4m _ _ _ _ t _ 0 _ _ rfl rfl fun k o ho _=>⟨?_,fun _=>rfl⟩
    rw [Nat.zero_add];exact hall k (by simpa using (List.getElem?_eq_some_iff.1 ho).1)
   rw [hact];refine hpost v w1 wc hI.rel (fun i hi k hk hne=>hI.newNe i hi k hk hne (hall i (hnews i hi).1) (hall k (hnews k hk).1)) (fun k hk hks=>hI.facts k (hall k hk) hks) ?_;have hl:=hI.last;have hc:c = tail.length:=by
    rcases Nat.lt_or_ge c tail.length with h | h
    . have h1:listed.getD tail[c] false = false:=hI.after c h (Nat.le_refl _)
      have h2:=hall _ (htail c h);rw [h2] at h1; cases h1
    . have:=hI.count; omega
   rw [hc] at hl;exact hl
  induction fuel with
  | zero =>
    intro listed a wc hsz hleft _ hI;have hr:Region.ready .any ops listed = []:=by
     refine List.eq_nil_iff_forall_not_mem.2 fun j hj=>?_;obtain ⟨hun,o,ho,_⟩:=mem_ready.1 hj;have hlt:j < ops.size:=(Array.getElem?_eq_some_iff.1 ho).1;have:=Q7b hsz hlt hun;omega
    exact ⟨hr,hdone listed a wc hsz hI hr⟩
  | succ fuel ih =>
    intro listed a wc hsz hleft hcl hI;refine ⟨hdone listed a wc hsz hI,fun j hj=>?_⟩;obtain ⟨v,w1,c,hI⟩:=hI;obtain ⟨hun,o,ho,hall⟩:=mem_ready.1 hj;have hlt:j < ops.size:=(Array.getElem?_eq_some_iff.1 ho).1;have hunf:listed.getD j false = false:=by rw [<- Q2a (by omega)]; exact hun
    have hpre:=hclosed (fun k=>listed.getD k false) hcl j o ho hall;have hol:ops.toList[j]? = some o:=by simpa using ho
    have hfree:∀ k,k < ops.size -> listed.getD k false = true -> j ∉ pre k:=by
     intro k hk hx hmem;have ho':ops[k]? = some ops[k]:=Array.getElem?_eq_getElem hk;have h2:listed.getD j false = true:=hclosed (fun k=>listed.getD k false) hcl k _ ho' (hcl k _ ho' hx) j hmem;rw [hunf] at h2; cases h2
    have hlater:∀ k o',j < k -> ops[k]? = some o' -> listed.getD k false = true -> o.apart ops o' = true:=by
     intro k o' hk ho' hx
     rcases hok.apart j k o o' hk ho ho' with h | h
     . exact h
     . exact absurd h (hfree k (Array.getElem?_eq_some_iff.1 ho').1 hx)
    have hlooks:∀ t ∈ o.looksAt ops,a.tmps[t]? = (act (fun k=>decide (k < j)) v ops.toList 0 a0).tmps[t]?:=by
     intro t ht;rw [hI.act];refine Q4m _ _ _ _ t _ 0 _ _ rfl rfl fun k o' ho' hd=>?_;rw [Nat.zero_add];refine ⟨?_,fun _=>rfl⟩;have ho'':ops[k]? = some o':=by simpa using ho'
     rcases Nat.lt_trichotomy k j with hk | hk | hk
     . simp only [hk,decide_true]
       rcases hok.apart k j o' o hk ho'' ho with h | h
       . exact absurd ht ((Oper.apart_spec h).1 t hd)
       . exact hpre k h
     . subst hk
       simp [hunf]
     . have hnlt:¬ k < j:=by omega
       simp only [hnlt,decide_false];cases hx:listed.getD k false with
       | false=>rfl
       | true=>exact absurd ht ((Oper.apart_spec (hlater k o' hk ho'' hx)).2.2 t hd)
    have hexec:execOp a.eval o = execOp (act (fun k=>decide (k < j)) v ops.toList 0 a0).eval o:=execOp_congr o (fun cs b=>hok.sel j o cs b ho) (eval_congr o hlooks);have hwant:Region.wanted o (yielded ops a.tmps) = Region.wanted o (yielded ops (act (fun k=>decide (k < j)) v ops.toList 0 a0).tmps):=Q6v o hlooks;have hput:∀ u,a.put o.dst u = act (fun k=>if k = j then true else listed.getD k false) (upd v j u) ops.toList 0 a0:=by
     intro u;rw [hI.act];refine X7l hol hunf fun k o' hk ho' hx=>?_;cases hd:o.dst with
     | none=>exact .inr rfl
     | some d=>exact .inl ((Oper.apart_spec (hlater k o' hk (by simpa using ho') hx)).2.1 d hd)
    have hX:(fun k=>(listed.setIfInBounds j true).getD k false) = fun k=>if k = j then true else listed.getD k false:=by
     funext k
     split
     . rename_i hk; subst hk; simp [hsz,hlt]
     . rename_i hk; exact getD_set_ne false (Ne.symm hk)
    have hwhich:j ∈ tail -> ∃ h:c < tail.length,tail[c] = j:=by
     intro hmem;obtain ⟨i,hi,he⟩:=List.getElem_of_mem hmem;have hci:c <= i:=by
      rcases Nat.lt_or_ge i c with h | h
      . have:=hI.before i hi h
        simp only [he] at this;rw [hunf] at this; cases this
      . exact h
     have:c = i:=by
      rcases Nat.lt_or_ge c i with h | h
      . have hx:=hpre tail[c] (by rw [<- he]; exact hchain c i (by omega) hi h)
        have h1:=hI.after c (by omega) (Nat.le_refl _)
        rw [hx] at h1; cases h1
      . omega
     subst this;exact ⟨hi,he⟩
    have hnext:∀ (u:Value) (w1' wc':World) (c':Nat),Rel w1 w1' -> (j ∉ tail -> D j (mask pre j (upd v j u)) w1') -> (j ∉ tail -> c' = c) -> (j ∈ tail -> c' = c + 1) -> (j ∈ news -> ∃ g,u = .pointer (some ⟨g,0,none⟩) /\ w1.heap.size <= g /\ g < w1'.heap.size) ->
        Tail pre tail E c' (upd v j u) w1' wc' -> wpAny P .any ops Q fuel (listed.setIfInBounds j true) (a.put o.dst u) wc':=by
     intro u w1' wc' c' hrel hD hc1 hc2 hN hE;refine ih _ _ _ (by simpa using hsz) (by have:=Q7b hsz hlt hun; omega) (fun k ok hok' hx e he hb=>?_) ⟨upd v j u,w1',c',⟨by rw [hX]; exact hput u,htrans _ _ _ hI.rel hrel,fun k hx hks=>?_,?_,fun i hi hic=>?_,fun i hi hic=>?_,hE,fun i hi hx=>?_,fun i hi k hk hne hx hy=>?_⟩⟩
     . by_cases hkj:k = j
       . subst hkj
         rw [ho] at hok';cases hok';exact getD_set_true (hall e he hb)
       . rw [getD_set_ne false (Ne.symm hkj)] at hx
         exact getD_set_true (hcl k ok hok' hx e he hb)
     . rw [congrFun hX k] at hx
       by_cases hkj:k = j
       . subst hkj; exact hD hks
       . rw [if_neg hkj] at hx
         have hksz:k < ops.size:=by
          rcases Nat.lt_or_ge k ops.size with h | h
          . exact h
          . rw [<- hsz] at h; simp [Array.getElem?_eq_none h] at hx
         rw [Q7g (Ne.symm hkj) (hfree k hksz hx)];exact hmono k hksz _ _ _ hrel (hI.facts k hx hks)
     . by_cases hjt:j ∈ tail
       . obtain ⟨h,_⟩:=hwhich hjt
         rw [hc2 hjt]; omega
       . rw [hc1 hjt]; exact hI.count
     . rw [congrFun hX]
       by_cases hij:tail[i] = j
       . rw [if_pos hij]
       . rw [if_neg hij]
         by_cases hjt:j ∈ tail
         . obtain ⟨h,he⟩:=hwhich hjt
           rw [hc2 hjt] at hic;have:i ≠ c:=fun e=>hij (by subst e; exact he)
           exact hI.before i hi (by omega)
         . rw [hc1 hjt] at hic; exact hI.before i hi hic
     . rw [congrFun hX]
       by_cases hjt:j ∈ tail
       . obtain ⟨h,he⟩:=hwhich hjt
         rw [hc2 hjt] at hic;rw [if_neg (fun e=>by
          have h1:=hchain c i h hi (by omega)
          rw [e,he] at h1;obtain ⟨e',he',hb',hcc⟩:=hok.pre j o ho j h1;have hl:=hok.edge j o ho e' he' hb';have h2:listed.getD j false = true:=hpre j h1;rw [hunf] at h2; cases h2)]
         exact hI.after i hi (by omega)
       . rw [hc1 hjt] at hic
         rw [if_neg (fun e=>hjt (by rw [<- e]; exact List.getElem_mem hi))]
         exact hI.after i hi hic
     . rw [congrFun hX i] at hx
       by_cases hij:i = j
       . subst hij
         obtain ⟨g,hg,_,h2⟩:=hN hi;exact ⟨g,by simp [upd,hg],h2⟩
       . rw [if_neg hij] at hx
         obtain ⟨g,hg,h2⟩:=hI.newIn i hi hx;exact ⟨g,by simp [upd,hij,hg],Nat.lt_of_lt_of_le h2 (hrsz _ _ hrel)⟩
     . rw [congrFun hX i] at hx
       rw [congrFun hX k] at hy
       by_cases hij:i = j
       . subst hij
         rw [if_neg (Ne.symm hne)] at hy;obtain ⟨g,hg,h1,_⟩:=hN hi;obtain ⟨g',hg',h2⟩:=hI.newIn k hk hy;have e1:upd v i u i = u:=by simp [upd]
         have e2:upd v i u k = v k:=by simp [upd,Ne.symm hne]
         rw [e1,e2,hg,hg'];intro he;injection he with he;injection he with he;injection he with he;omega
       . rw [if_neg hij] at hx
         by_cases hkj:k = j
         . subst hkj
           obtain ⟨g,hg,h1,_⟩:=hN hk;obtain ⟨g',hg',h2⟩:=hI.newIn i hi hx;have e1:upd v k u k = u:=by simp [upd]
           have e2:upd v k u i = v i:=by simp [upd,hij]
           rw [e1,e2,hg,hg'];intro he;injection he with he;injection he with he;injection he with he;omega
         . rw [if_neg hkj] at hy
           have e1:upd v j u i = v i:=by simp [upd,hij]
           have e2:upd v j u k = v k:=by simp [upd,hkj]
           rw [e1,e2];exact hI.newNe i hi k hk hne hx hy
    have htailkeep:j ∉ tail -> ∀ u,Tail pre tail E c (upd v j u) w1 wc:=by
     intro hjt u;have hl:=hI.last;cases c with
     | zero=>exact hl
     | succ c =>
       have hct:c < tail.length:=by have:=hI.count; omega
       change E c (mask pre (tail.getD c 0) v) w1 wc at hl;show E c (mask pre (tail.getD c 0) (upd v j u)) w1 wc;have e:tail.getD c 0 = tail[c]:=by simp [hct]
       rw [e] at hl ⊢;rw [Q7g (fun h=>hjt (by rw [h]; exact List.getElem_mem hct)) (hfree _ (htail c hct) (hI.before c hct (by omega)))]
       exact hl
    have hnone:kind j ≠ .world -> j ∉ news:=fun h1 h2=>h1 (hnews j h2).2.1;have hpass:Region.wanted o (yielded ops (act (fun k=>decide (k < j)) v ops.toList 0 a0).tmps) = false -> j ∉ news:=fun h1 h2=>by
     have h3:=((hnews j h2).2.2 o ho).1;simp [Region.wanted,h3] at h1
    unfold wpOp;simp only [ho];rw [hwant]
    by_cases hjt:j ∈ tail
    . obtain ⟨hc,he⟩:=hwhich hjt
      have hv:=hvl c hc o (by rw [he]; exact ho) v w1 hI.rel (fun k hk hkt=>hI.facts k (hpre k (by rw [<- he]; exact hk)) hkt) wc hI.last
      rw [he] at hv;have hT:∀ u w',E c (mask pre j (upd v j u)) w1 w' -> Tail pre tail E (c + 1) (upd v j u) w1 w':=by
       intro u w' h;show E c (mask pre (tail.getD c 0) (upd v j u)) w1 w';have e:tail.getD c 0 = j:=by simp [hc,he]
       rw [e]; exact h
      rcases hv with ⟨hwt,hg⟩ | ⟨hwf,hD⟩
      . rw [if_pos hwt]
        refine .inl ?_;unfold Oper.wp;rw [hexec];exact Q1l (Q3k (fun u w' h=>hnext u w1 w' (c + 1) (hrefl _) (fun h=>absurd hjt h) (fun h=>absurd hjt h) (fun _=>rfl) (fun hn=>absurd hn (hnone (by rw [(hkind j hlt).2 hjt]; simp))) (hT u w' h)) hg)
      . rw [if_neg (by rw [hwf]; simp)]
        exact hnext undef w1 wc (c + 1) (hrefl _) (fun h=>absurd hjt h) (fun h=>absurd hjt h) (fun _=>rfl) (fun hn=>absurd hn (hpass hwf)) (hT _ _ hD)
    . have hfacts:∀ k ∈ pre j,D k (mask pre k v) w1:=fun k hk=>hI.facts k (hpre k hk) (hlate j hlt hjt k hk)
      have hv:=hvc j o ho hjt v w1 hI.rel hfacts;cases hk:kind j with
      | plain =>
        rw [hk] at hv
        rcases hv with ⟨hwt,u,hrun,hD⟩ | ⟨hwf,hD⟩
        . rw [if_pos hwt]
          refine .inl ?_;unfold Oper.wp;rw [hexec,hrun wc];exact hnext u w1 wc c (hrefl _) (fun _=>hD) (fun _=>rfl) (fun h=>absurd h hjt) (fun hn=>absurd hn (hnone (by rw [hk]; simp))) (htailkeep hjt u)
        . rw [if_neg (by rw [hwf]; simp)]
          exact hnext undef w1 wc c (hrefl _) (fun _=>hD) (fun _=>rfl) (fun h=>absurd h hjt) (fun hn=>absurd hn (hpass hwf)) (htailkeep hjt undef)
      | world =>
        have hc0:c = 0:=by
         rcases Nat.eq_zero_or_pos c with h | h
         . exact h
         . have h0:0 < tail.length:=by have:=hI.count; omega
           have hx:=hI.before 0 h0 h;exact absurd (hearly j hlt hk tail[0] (List.getElem_mem h0)) (hfree _ (htail 0 h0) hx)
        subst hc0;have hwc:wc = w1:=hI.last;subst hwc;rw [hk] at hv
        rcases hv with ⟨hwt,hg⟩ | ⟨hwf,hD⟩
        . rw [if_pos hwt]
          refine .inl ?_;unfold Oper.wp;rw [hexec]
          by_cases hn:j ∈ news
          . obtain ⟨cc,hrun⟩:=((hnews j hn).2.2 o ho).2 (act (fun k=>decide (k < j)) v ops.toList 0 a0).eval wc
            rw [hrun] at hg ⊢;exact Q1l (hnext _ _ _ 0 hg.1 (fun _=>hg.2) (fun _=>rfl) (fun h=>absurd h hjt) (fun _=>⟨_,rfl,Nat.le_refl _,by rw [World.size_alloc]; exact Nat.lt_succ_self _⟩) rfl)
          . exact Q1l (Q3k (fun u w' h=>hnext u w' w' 0 h.1 (fun _=>h.2) (fun _=>rfl) (fun h=>absurd h hjt) (fun h=>absurd h hn) rfl) hg)
        . rw [if_neg (by rw [hwf]; simp)]
          exact hnext undef wc wc 0 (hrefl _) (fun _=>hD) (fun _=>rfl) (fun h=>absurd h hjt) (fun hn=>absurd hn (hpass hwf)) rfl
      | last=>exact absurd ((hkind j hlt).1 hk) hjt
 refine main ops.size _ a0 _ (by simp) ?_ (fun j o _ hx=>?_) ⟨fun _=>undef,w.drew,0,?_,hrefl _,fun k hx=>?_,Nat.zero_le _,fun i _ h=>absurd h (Nat.not_lt_zero _),fun i _ _=>?_,rfl,fun i _ hx=>?_,fun i _ _ _ _ hx=>?_⟩
 . exact Nat.le_trans (List.countP_le_length) (by simp)
 . have:=Q1t ops.size j
   rw [this] at hx; cases hx
 . refine (Q8u (by rw [Q1w]) fun t=>?_)
   have:∀ (l:List Oper) (i:Nat) (a:Act),act (fun k=>(Array.replicate ops.size false).getD k false) (fun _=>undef) l i a = a:=by
    intro l; induction l with
    | nil=>intro i a; rfl
    | cons o l ih=>intro i a; rw [act,ih,Q1t]; rfl
   rw [this]
 . have:=Q1t ops.size k
   rw [this] at hx; cases hx
 . exact Q1t ops.size _
 . have:=Q1t ops.size i
   rw [this] at hx; cases hx
 . have:=Q1t ops.size i
   rw [this] at hx; cases hx
end
end Go.Flow
namespace Go.Flow
open Go.RowKit Go.Tw
structure Spec where
 D:(Nat -> Value) -> World -> Prop
 mono:∀ v w w',Ext w w' -> D v w -> D v w'
def Spec.is (j:Nat) (e:(Nat -> Value) -> Value):Spec:=⟨fun v _=>v j = e v,fun _ _ _ _ h=>h⟩
def Spec.c (j:Nat) (x:Value):Spec:=Spec.is j fun _=>x
def Spec.none:Spec:=⟨fun _ _=>True,fun _ _ _ _ _=>trivial⟩
def lookup {α:Type}:List α -> α -> Nat -> α
 | [],d,_=>d
 | x :: _,_,0=>x
 | _ :: l,d,n + 1=>lookup l d n
def Facts (pre:Nat -> List Nat) (D:Nat -> (Nat -> Value) -> World -> Prop) (v:Nat -> Value) (w:World):List Nat -> Prop -> Prop
 | [],G=>G
 | k :: l,G=>D k (mask pre k v) w -> Facts pre D v w l G
theorem Facts.out {pre:Nat -> List Nat} {D:Nat -> (Nat -> Value) -> World -> Prop} {v:Nat -> Value} {w:World} {G:Prop}:∀ {l:List Nat},Facts pre D v w l G -> (∀ k ∈ l,D k (mask pre k v) w) -> G
 | [],h,_=>h
 | k :: l,h,hf=>Facts.out (h (hf k (by simp))) (fun i hi=>hf i (by simp [hi]))
def Due (P:Program) (pre:Nat -> List Nat) (D:Nat -> (Nat -> Value) -> World -> Prop) (E:(Nat -> Value) -> World -> World -> Prop) (k:Kind) (o:Oper) (j:Nat) (b:Act) (v:Nat -> Value) (w1 w:World):Prop :=
 match k with
 | .plain=>∃ u,(∀ w,(execOp b.eval o).run P w = .ok (.value u) w) /\ D j (mask pre j (upd v j u)) w1
 | .world=>∀ K:Value -> World -> Prop,(∀ u w',Ext w1 w' -> D j (mask pre j (upd v j u)) w' -> K u w') -> gives P K ((execOp b.eval o).run P w1)
 | .last=>∀ K:Value -> World -> Prop,(∀ u w',E (mask pre j (upd v j u)) w1 w' -> K u w') -> gives P K ((execOp b.eval o).run P w)
def Pass (pre:Nat -> List Nat) (D:Nat -> (Nat -> Value) -> World -> Prop) (E:(Nat -> Value) -> World -> World -> Prop) (k:Kind) (j:Nat) (v:Nat -> Value) (w1 w:World):Prop :=
 match k with
 | .last=>E (mask pre j (upd v j undef)) w1 w
 | _=>D j (mask pre j (upd v j undef)) w1
def Guarded (ops:Array Oper) (o:Oper) (b:Act) (T F:Prop):Prop :=
 match o.guard with
 | none=>T
 | some _=>(Region.wanted o (yielded ops b.tmps) = true /\ T) ∨ (Region.wanted o (yielded ops b.tmps) = false /\ F)
theorem J9f {P:Program} {ops:Array Oper} {pre:Nat -> List Nat} {D:Nat -> (Nat -> Value) -> World -> Prop} {T E:(Nat -> Value) -> World -> World -> Prop} {k:Kind} {o:Oper} {j:Nat} {b:Act} {v:Nat -> Value} {w1:World}
    (hk:k ≠ .last) (h:Guarded ops o b (Due P pre D E k o j b v w1 w1) (Pass pre D E k j v w1 w1)):vc P ops pre Ext D T E k o j b v w1:=by
 have h':(Region.wanted o (yielded ops b.tmps) = true /\ Due P pre D E k o j b v w1 w1) ∨ (Region.wanted o (yielded ops b.tmps) = false /\ Pass pre D E k j v w1 w1):=by
  unfold Guarded at h;cases hg:o.guard with
  | none=>rw [hg] at h; exact .inl ⟨by simp [Region.wanted,hg],h⟩
  | some g=>rw [hg] at h; exact h
 cases k with
 | plain=>exact h'.imp (fun ⟨a,u,b,c⟩=>⟨a,u,b,c⟩) id
 | world=>exact h'.imp (fun ⟨a,b⟩=>⟨a,b _ fun u w' h1 h2=>⟨h1,h2⟩⟩) id
 | last=>exact absurd rfl hk
theorem J6u {P:Program} {ops:Array Oper} {pre:Nat -> List Nat} {D:Nat -> (Nat -> Value) -> World -> Prop} {T E:(Nat -> Value) -> World -> World -> Prop} {o:Oper} {j:Nat} {b:Act} {v:Nat -> Value} {w1:World}
    (h:∀ w,T v w1 w -> Guarded ops o b (Due P pre D E .last o j b v w1 w) (Pass pre D E .last j v w1 w)):vc P ops pre Ext D T E .last o j b v w1:=by
 intro w hT;have h:=h w hT;have h':(Region.wanted o (yielded ops b.tmps) = true /\ Due P pre D E .last o j b v w1 w) ∨ (Region.wanted o (yielded ops b.tmps) = false /\ Pass pre D E .last j v w1 w):=by
  unfold Guarded at h;cases hg:o.guard with
  | none=>rw [hg] at h; exact .inl ⟨by simp [Region.wanted,hg],h⟩
  | some g=>rw [hg] at h; exact h
 exact h'.imp (fun ⟨a,b⟩=>⟨a,b _ fun u w' h1=>h1⟩) id
def X7k (P:Program) (ops:Array Oper) (pre:Nat -> List Nat) (tail:List Nat) (w0:World) (D:Nat -> (Nat -> Value) -> World -> Prop):List ((Nat -> Value) -> World -> World -> Prop) -> ((Nat -> Value) -> World -> World -> Prop) -> List Oper -> List Kind -> List Nat -> ((Nat -> Value) -> Act) -> Prop
 | El,T,o :: l,k :: kl,j :: jl,b =>
   match k,El with
   | .last,E :: El=>(∀ v w1,Ext w0 w1 -> Facts pre D v w1 ((pre j).filter fun i=>!tail.contains i) (∀ w,T v w1 w -> ∀ bb,bb = b v -> Guarded ops o bb (Due P pre D E .last o j bb v w1 w) (Pass pre D E .last j v w1 w))) /\
      X7k P ops pre tail w0 D El (fun v w1 w=>E (mask pre j v) w1 w) l kl jl (fun v=>(b v).put o.dst (v j))
   | .last,[]=>False
   | k,El=>(∀ v w1,Ext w0 w1 -> Facts pre D v w1 (pre j) (Guarded ops o (b v) (Due P pre D (fun _ _ _=>False) k o j (b v) v w1 w1) (Pass pre D (fun _ _ _=>False) k j v w1 w1))) /\ X7k P ops pre tail w0 D El T l kl jl (fun v=>(b v).put o.dst (v j))
 | _,_,_,_,_,_=>True
def X1k:Kind -> Bool | .world=>true | _=>false
def isLast:Kind -> Bool | .last=>true | _=>false
def okL (ops:List Oper) (pl:List (List Nat)) (kl:List Kind) (tail:List Nat) (n:Nat):Bool :=
 okB ops.toArray (lookup pl []) && kl.length == ops.length && (tail == (List.range ops.length).filter fun j=>isLast (lookup kl .plain j)) && (n == tail.length) &&
 ((List.range tail.length).all fun k=>(List.range k).all fun i=>(lookup pl [] (tail.getD k 0)).contains (tail.getD i 0)) &&
 ((List.range ops.length).all fun j=>isLast (lookup kl .plain j) || ((lookup pl [] j).all fun k=>!tail.contains k)) &&
 ((List.range ops.length).all fun j=>!X1k (lookup kl .plain j) || (tail.all fun s=>(lookup pl [] s).contains j))
theorem Q3c (v:Nat -> Value):∀ (l:List Oper) (i j:Nat) (a:Act),act (fun k=>decide (k < i + j)) v l i a = act (fun _=>true) v (l.take j) i a
 | [],i,j,a=>by simp [act]
 | o :: l,i,0,a=>by
   simp only [Nat.add_zero,List.take_zero,act];rw [if_neg (by simp)]
   have:∀ (l:List Oper) (k:Nat) (a:Act),i <= k -> act (fun k=>decide (k < i)) v l k a = a:=by
    intro l
    induction l with
    | nil=>intro k a _; rfl
    | cons o l ih=>intro k a hk; rw [act,if_neg (by simp; omega)]; exact ih (k + 1) a (by omega)
   exact this l (i + 1) a (by omega)
 | o :: l,i,j + 1,a=>by
   rw [List.take_succ_cons,act,act,if_pos (by simp),if_pos rfl]
   have:=Q3c v l (i + 1) j (a.put o.dst (v i))
   rwa [show i + 1 + j = i + (j + 1) from by omega] at this
theorem Y5k {P:Program} {ops:Array Oper} {pre:Nat -> List Nat} {tail:List Nat} {w0:World} {D:Nat -> (Nat -> Value) -> World -> Prop} :
    ∀ (l:List Oper) (kl:List Kind) (El:List ((Nat -> Value) -> World -> World -> Prop)) (T:(Nat -> Value) -> World -> World -> Prop) (i:Nat) (b:(Nat -> Value) -> Act),kl.length = l.length ->
     X7k P ops pre tail w0 D El T l kl (List.range' i l.length) b -> ∀ j o,l[j]? = some o -> lookup kl .plain j ≠ .last -> ∀ v w1,Ext w0 w1 ->
     (∀ n ∈ pre (i + j),D n (mask pre n v) w1) -> vc P ops pre Ext D (fun _ _ _=>False) (fun _ _ _=>False) (lookup kl .plain j) o (i + j) (act (fun _=>true) v (l.take j) i (b v)) v w1
 | [],_,_,_,_,_,_,_,j,_,h,_,_,_,_,_=>by simp at h
 | o :: l,[],_,_,_,_,hk,_,_,_,_,_,_,_,_,_=>by simp at hk
 | o :: l,k :: kl,El,T,i,b,hk,h,j,o',hj,hne,v,w1,hx,hf=>by
   rw [List.length_cons,List.range'_succ] at h;cases j with
   | zero =>
     simp only [List.getElem?_cons_zero,Option.some.injEq] at hj;subst hj;simp only [lookup] at hne ⊢;cases k with
     | last=>exact absurd rfl hne
     | plain=>simp only [X7k] at h; simpa [act] using J9f hne ((h.1 v w1 hx).out (by simpa using hf))
     | world=>simp only [X7k] at h; simpa [act] using J9f hne ((h.1 v w1 hx).out (by simpa using hf))
   | succ j =>
     have hrest:∃ El T,X7k P ops pre tail w0 D El T l kl (List.range' (i + 1) l.length) (fun v=>(b v).put o.dst (v i)):=by
      cases k with
      | last=>cases El with
        | nil=>simp only [X7k] at h
        | cons E El=>simp only [X7k] at h; exact ⟨_,_,h.2⟩
      | plain=>simp only [X7k] at h; exact ⟨_,_,h.2⟩
      | world=>simp only [X7k] at h; exact ⟨_,_,h.2⟩
     obtain ⟨El',T',h'⟩:=hrest;have:=Y5k l kl El' T' (i + 1) _ (by simpa using hk) h' j o' (by simpa using hj) (by simpa [lookup] using hne) v w1 hx (by rwa [show i + 1 + j = i + (j + 1) from by omega])
     rw [show i + 1 + j = i + (j + 1) from by omega] at this
     simpa [act,lookup] using this
def lasts:List Kind -> Nat -> List Nat
 | [],_=>[]
 | .last :: l,i=>i :: lasts l (i + 1)
 | _ :: l,i=>lasts l (i + 1)
theorem X2h:∀ (kl:List Kind) (i:Nat),lasts kl i = (List.range' i kl.length).filter fun j=>isLast (lookup kl .plain (j - i))
 | [],_=>rfl
 | k :: l,i=>by
   rw [List.length_cons,List.range'_succ,List.filter_cons,Nat.sub_self];have e:((List.range' (i + 1) l.length).filter fun j=>isLast (lookup (k :: l) .plain (j - i))) = (List.range' (i + 1) l.length).filter fun j=>isLast (lookup l .plain (j - (i + 1))):=by
    refine List.filter_congr fun j hj=>?_;have hj':=(List.mem_range'_1.1 hj).1;rw [show j - i = (j - (i + 1)) + 1 from by omega]; rfl
   rw [e,<- X2h l (i + 1)];cases k <;> simp [lasts,lookup,isLast]
theorem Q8i {P:Program} {ops:Array Oper} {pre:Nat -> List Nat} {tail:List Nat} {w0:World} {D:Nat -> (Nat -> Value) -> World -> Prop} (E:Nat -> (Nat -> Value) -> World -> World -> Prop) :
    ∀ (l:List Oper) (kl:List Kind) (El:List ((Nat -> Value) -> World -> World -> Prop)) (i:Nat) (b:(Nat -> Value) -> Act) (c0:Nat),kl.length = l.length -> tail.drop c0 = lasts kl i -> (∀ n,n < (lasts kl i).length -> El[n]? = some (E (c0 + n))) ->
     X7k P ops pre tail w0 D El (Tail pre tail E c0) l kl (List.range' i l.length) b -> ∀ n,n < (lasts kl i).length -> ∀ j o,tail[c0 + n]? = some (i + j) -> l[j]? = some o -> ∀ v w1,Ext w0 w1 ->
     (∀ m ∈ pre (i + j),m ∉ tail -> D m (mask pre m v) w1) -> vc P ops pre Ext D (Tail pre tail E (c0 + n)) (E (c0 + n)) .last o (i + j) (act (fun _=>true) v (l.take j) i (b v)) v w1
 | [],[],_,_,_,_,_,_,_,_,n,h,_,_,_,_,_,_,_,_=>by simp [lasts] at h
 | [],_ :: _,_,_,_,_,hk,_,_,_,_,_,_,_,_,_,_,_,_,_=>by simp at hk
 | o :: l,[],_,_,_,_,hk,_,_,_,_,_,_,_,_,_,_,_,_,_=>by simp at hk
 | o :: l,k :: kl,El,i,b,c0,hk,htl,hE,h,n,hn,j,o',ht,hj,v,w1,hx,hf=>by
   rw [List.length_cons,List.range'_succ] at h;have hlow:∀ (kl:List Kind) (i:Nat),∀ x ∈ lasts kl i,i <= x:=by
    intro kl
    induction kl with
    | nil=>intro i x hx; simp [lasts] at hx
    | cons k kl ih => intro i x hx; cases k <;> simp only [lasts, List.mem_cons] at hx
                      . have:=ih _ _ hx; omega
                      . have:=ih _ _ hx; omega
                      . rcases hx with rfl | hx
                        . exact Nat.le_refl _
                        . have:=ih _ _ hx; omega
   have ht':(lasts (k :: kl) i)[n]? = some (i + j):=by rw [<- htl,List.getElem?_drop]; exact ht
   have hsk:k ≠ .last -> ∃ j',j = j' + 1 /\ (lasts kl (i + 1))[n]? = some (i + 1 + j'):=by
    intro hne;have e:lasts (k :: kl) i = lasts kl (i + 1):=by cases k <;> first | rfl | exact absurd rfl hne
    rw [e] at ht';have:=hlow kl (i + 1) _ (List.mem_of_getElem? ht');exact ⟨j - 1,by omega,by rw [ht']; congr 1; omega⟩
   cases k with
   | plain =>
     obtain ⟨j',rfl,ht2⟩:=hsk (by simp)
     simp only [X7k] at h;have:=Q8i E l kl El (i + 1) _ c0 (by simpa using hk) (by simpa [lasts] using htl) (by simpa [lasts] using hE) h.2 n (by simpa [lasts] using hn) j' o' (by rw [ht]; congr 1; omega) (by simpa using hj) v w1 hx (by rwa [show i + 1 + j' = i + (j' + 1) from by omega])
     rw [show i + 1 + j' = i + (j' + 1) from by omega] at this
     simpa [act] using this
   | world =>
     obtain ⟨j',rfl,ht2⟩:=hsk (by simp)
     simp only [X7k] at h;have:=Q8i E l kl El (i + 1) _ c0 (by simpa using hk) (by simpa [lasts] using htl) (by simpa [lasts] using hE) h.2 n (by simpa [lasts] using hn) j' o' (by rw [ht]; congr 1; omega) (by simpa using hj) v w1 hx (by rwa [show i + 1 + j' = i + (j' + 1) from by omega])
     rw [show i + 1 + j' = i + (j' + 1) from by omega] at this
     simpa [act] using this
   | last =>
     cases El with
     | nil=>simp only [X7k] at h
     | cons E0 El =>
       have e0:E0 = E c0:=by have:=hE 0 (by simp [lasts]); simpa using this
       subst e0;simp only [X7k] at h;have htc:tail.getD c0 0 = i:=by
        have:(tail.drop c0)[0]? = some i:=by rw [htl]; rfl
        rw [List.getElem?_drop] at this
        simpa using congrArg (fun x=>x.getD 0) this
       cases n with
       | zero =>
         have hj0:j = 0:=by
          have:(lasts (.last :: kl) i)[0]? = some i:=rfl;rw [this] at ht'; simp at ht'; omega
         subst hj0;simp only [List.getElem?_cons_zero,Option.some.injEq] at hj;subst hj;have:=J6u (h:=fun w hT=>(h.1 v w1 hx).out (fun m hm=>by
          simp only [List.mem_filter,Bool.not_eq_true',List.contains_eq_mem,decide_eq_false_iff_not] at hm;exact hf m (by simpa using hm.1) hm.2) w hT _ rfl)
         simpa [act] using this
       | succ n =>
         have hmem:(lasts kl (i + 1))[n]? = some (i + j):=by simpa [lasts] using ht'
         have hge:=hlow kl (i + 1) _ (List.mem_of_getElem? hmem);obtain ⟨j',rfl⟩:∃ j',j = j' + 1:=⟨j - 1,by omega⟩
         have hT:(fun v w1 w=>E c0 (mask pre i v) w1 w) = Tail pre tail E (c0 + 1):=by
          funext v w1 w
          show _ = E c0 (mask pre (tail.getD c0 0) v) w1 w;rw [htc]
         have h2:=h.2;rw [hT] at h2;have:=Q8i E l kl El (i + 1) _ (c0 + 1) (by simpa using hk) (by
             have e:tail.drop (c0 + 1) = (tail.drop c0).drop 1:=by rw [List.drop_drop]
             rw [e,htl]; rfl) (fun m hm=>by
             have:=hE (m + 1) (by simpa [lasts] using hm)
             rw [show c0 + 1 + m = c0 + (m + 1) from by omega]
             simpa using this) h2 n (by simpa [lasts] using hn) j' o' (by rw [show c0 + 1 + n = c0 + (n + 1) from by omega,ht]; congr 1; omega) (by simpa using hj) v w1 hx (by rwa [show i + 1 + j' = i + (j' + 1) from by omega])
         rw [show i + 1 + j' = i + (j' + 1) from by omega,show c0 + 1 + n = c0 + (n + 1) from by omega] at this
         simpa [act] using this
def acts (v:Nat -> Value):List Oper -> List Nat -> Act -> Act
 | o :: l,j :: jl,a=>acts v l jl (a.put o.dst (v j))
 | _,_,a=>a
theorem X8o (v:Nat -> Value):∀ (l:List Oper) (i:Nat) (a:Act),acts v l (List.range' i l.length) a = act (fun _=>true) v l i a
 | [],_,_=>rfl
 | o :: l,i,a=>by rw [List.length_cons,List.range'_succ,acts,act,X8o v l]; rfl
def All (pre:Nat -> List Nat) (D:Nat -> (Nat -> Value) -> World -> Prop) (v:Nat -> Value) (w:World) (tail:List Nat):List Nat -> Prop -> Prop
 | [],G=>G
 | j :: l,G=>if tail.contains j = true then All pre D v w tail l G else D j (mask pre j v) w -> All pre D v w tail l G
theorem All.out {pre:Nat -> List Nat} {D:Nat -> (Nat -> Value) -> World -> Prop} {v:Nat -> Value} {w:World} {tail:List Nat} {G:Prop}:∀ {l:List Nat},All pre D v w tail l G -> (∀ k ∈ l,k ∉ tail -> D k (mask pre k v) w) -> G
 | [],h,_=>h
 | j :: l,h,hf=>by
   unfold All at h
   split at h
   . exact All.out h (fun k hk=>hf k (by simp [hk]))
   . rename_i hj
     exact All.out (h (hf j (by simp) (by simpa using hj))) (fun k hk=>hf k (by simp [hk]))
def endOf (pre:Nat -> List Nat) (v:Nat -> Value) (w1 w:World):List Nat -> List ((Nat -> Value) -> World -> World -> Prop) -> Prop
 | [j],[E]=>E (mask pre j v) w1 w
 | _ :: jl,_ :: El=>endOf pre v w1 w jl El
 | _,_=>w = w1
section
variable {P:Program} {id:Nat} {Q:Exit -> Act -> World -> Prop} {a0:Act} {w:World} {ops:List Oper}
theorem J7b (news:List Nat) (kl:List Kind) (jl:List Nat) (pl:List (List Nat)) (tail:List Nat) (Dl:List Spec) (El:List ((Nat -> Value) -> World -> World -> Prop))
    (hm:P.follows .mixedOrders = true) (hjl:jl = List.range' 0 ops.length) (hok:okL ops pl kl tail El.length = true)
    (hvc:X7k P ops.toArray (lookup pl []) tail w.drew (fun k=>(lookup Dl .none k).D) El (fun _ w1 w=>w = w1) ops kl jl (fun _=>a0))
    (hnews:news.all (fun j=>decide (j < ops.length) && X1k (lookup kl .plain j)) = true) (hmade:∀ j ∈ news,∀ o,ops[j]? = some o -> Made P o)
    (hpost:∀ v w1,Ext w.drew w1 -> J9p news v -> All (lookup pl []) (fun k=>(lookup Dl .none k).D) v w1 tail jl (∀ w',endOf (lookup pl []) v w1 w' tail El -> Q .normal (acts v ops jl a0) w')) :
    (Code.region id ops.toArray true).wp P Q a0 w:=by
 subst hjl;simp only [X8o] at hpost;simp only [okL,Bool.and_eq_true,List.all_eq_true,List.mem_range,beq_iff_eq,Bool.or_eq_true,Bool.not_eq_true',List.contains_eq_mem,decide_eq_true_eq,decide_eq_false_iff_not] at hok;obtain ⟨⟨⟨⟨⟨⟨hok,hlen⟩,htail⟩,hn⟩,hchain⟩,hlate⟩,hearly⟩:=hok;have hmem:∀ j,j ∈ tail ↔ j < ops.length /\ isLast (lookup kl .plain j) = true:=by intro j; rw [htail,List.mem_filter,List.mem_range]
 have hk:∀ j,isLast (lookup kl .plain j) = true ↔ lookup kl .plain j = .last:=by intro j; cases lookup kl .plain j <;> simp [isLast]
 have hlk:lasts kl 0 = tail:=by
  rw [X2h,htail,hlen,List.range_eq_range'];rfl
 have hEl:∀ n,n < (lasts kl 0).length -> El[n]? = some ((fun c=>(El[c]?).getD fun _ _ _=>True) (0 + n)):=by
  intro n hn';rw [hlk,<- hn] at hn';simp [hn']
 have hend:∀ v w1 w',Tail (lookup pl []) tail (fun c=>(El[c]?).getD fun _ _ _=>True) tail.length v w1 w' -> endOf (lookup pl []) v w1 w' tail El:=by
  intro v w1 w' h;have gen:∀ (tl:List Nat) (el:List ((Nat -> Value) -> World -> World -> Prop)),el.length = tl.length -> (tl = [] -> w' = w1) -> (∀ (hne:tl ≠ []),((el[tl.length - 1]?).getD fun _ _ _=>True) (mask (lookup pl []) (tl.getD (tl.length - 1) 0) v) w1 w') -> endOf (lookup pl []) v w1 w' tl el:=by
   intro tl
   induction tl with
   | nil=>intro el _ h0 _; cases el <;> exact h0 rfl
   | cons j tl ih =>
     intro el hl _ h1;cases el with
     | nil=>simp at hl
     | cons E el =>
       cases tl with
       | nil=>cases el with
         | nil=>simpa [endOf] using h1 (by simp)
         | cons _ _=>simp at hl
       | cons j' tl=>cases el with
         | nil=>simp at hl
         | cons E' el =>
           show endOf _ v w1 w' (j' :: tl) (E' :: el);exact ih _ (by simpa using hl) (fun h=>by simp at h) (fun _=>by simpa using h1 (by simp))
  refine gen tail El hn.symm.symm (fun h0=>?_) (fun hne=>?_)
  . rw [h0] at h; exact h
  . obtain ⟨m,hm⟩:∃ m,tail.length = m + 1:=⟨tail.length - 1,by have:=List.length_pos_iff.2 hne; omega⟩
    rw [hm] at h;rw [hm,Nat.add_sub_cancel];exact h
 refine Y1r news tail (lookup kl .plain) (Rel:=Ext) (D:=fun k=>(lookup Dl .none k).D) (E:=fun c=>(El[c]?).getD fun _ _ _=>True) hm (J3v hok)
  (fun i hi=>by simpa using ((hmem _).1 (List.getElem_mem hi)).1) (fun i k hi hk hik=>by have:=hchain k hk i hik; simpa [hi,hk] using this)
  (fun j hjl hjs k hk'=>?_) (fun j hjl=>?_) (fun j hjl hjw s hs=>?_)
  Ext.refl (fun _ _ _=>Ext.trans) (fun k _ v w w' hx hd=>(lookup Dl .none k).mono v w w' hx hd) (fun j o ho hjs v w1 hx hf=>?_) (fun c hc o ho v w1 hx hf=>?_) (fun j hj=>?_) (fun _ _ h=>h.size) (fun v w1 w' hx hnw hf hE=>?_)
 . rcases hlate j (by simpa using hjl) with h | h
   . exact absurd ((hmem j).2 ⟨by simpa using hjl,h⟩) hjs
   . exact h k hk'
 . rw [hmem,hk]; simp at hjl; simp [hjl]
 . rcases hearly j (by simpa using hjl) with h | h
   . rw [hjw] at h; simp [X1k] at h
   . exact h s hs
 . have hjl:j < ops.length:=by simpa using (Array.getElem?_eq_some_iff.1 ho).1
   have:=Y5k ops kl El _ 0 _ hlen hvc j o (by simpa using ho) (fun h=>hjs ((hmem j).2 ⟨hjl,(hk j).2 h⟩)) v w1 hx (by simpa using hf)
   rw [Nat.zero_add] at this;have e:=Q3c v ops 0 j a0;rw [Nat.zero_add] at e
   simpa [e] using this
 . have:=Q8i (fun c=>(El[c]?).getD fun _ _ _=>True) ops kl El 0 _ 0 hlen (by rw [hlk]; rfl) hEl hvc c (by rw [hlk]; exact hc) tail[c] o (by simp [hc]) (by simpa using ho) v w1 hx (by simpa using hf)
   rw [Nat.zero_add,Nat.zero_add] at this;have e:=Q3c v ops 0 tail[c] a0;rw [Nat.zero_add] at e
   simpa [e] using this
 . have h1:=List.all_eq_true.1 hnews j hj
   simp only [Bool.and_eq_true,decide_eq_true_eq] at h1;refine ⟨by simpa using h1.1,?_,fun o ho=>hmade j hj o (by simpa using ho)⟩
   have h2:=h1.2;cases hk:lookup kl .plain j <;> rw [hk] at h2 <;> first | rfl | cases h2
 . exact (hpost v w1 hx hnw).out (fun k hk hks=>hf k (by simpa using hk) hks) w' (hend v w1 w' hE)
theorem region (kl:List Kind) (jl:List Nat) (pl:List (List Nat)) (tail:List Nat) (Dl:List Spec) (El:List ((Nat -> Value) -> World -> World -> Prop))
    (hm:P.follows .mixedOrders = true) (hjl:jl = List.range' 0 ops.length) (hok:okL ops pl kl tail El.length = true)
    (hvc:X7k P ops.toArray (lookup pl []) tail w.drew (fun k=>(lookup Dl .none k).D) El (fun _ w1 w=>w = w1) ops kl jl (fun _=>a0))
    (hpost:∀ v w1,Ext w.drew w1 -> All (lookup pl []) (fun k=>(lookup Dl .none k).D) v w1 tail jl (∀ w',endOf (lookup pl []) v w1 w' tail El -> Q .normal (acts v ops jl a0) w')) :
    (Code.region id ops.toArray true).wp P Q a0 w :=
 J7b [] kl jl pl tail Dl El hm hjl hok hvc rfl (fun _ h=>nomatch h) (fun v w1 hx _=>hpost v w1 hx)
theorem J6k (kl:List Kind) (jl:List Nat) (pl:List (List Nat)) (Dl:List Spec)
    (hm:P.follows .mixedOrders = true) (hjl:jl = List.range' 0 ops.length) (hok:okL ops pl kl [] 0 = true)
    (hvc:X7k P ops.toArray (lookup pl []) [] w.drew (fun k=>(lookup Dl .none k).D) [] (fun _ w1 w=>w = w1) ops kl jl (fun _=>a0))
    (hpost:∀ v w1,Ext w.drew w1 -> All (lookup pl []) (fun k=>(lookup Dl .none k).D) v w1 [] jl (Q .normal (acts v ops jl a0) w1)) :
    (Code.region id ops.toArray true).wp P Q a0 w :=
 region kl jl pl [] Dl [] hm hjl hok hvc (fun v w1 hx=>by
  have:=hpost v w1 hx;have gen:∀ (jl:List Nat) (G G':Prop),(G -> G') -> All (lookup pl []) (fun k=>(lookup Dl .none k).D) v w1 [] jl G -> All (lookup pl []) (fun k=>(lookup Dl .none k).D) v w1 [] jl G':=by
   intro jl
   induction jl with
   | nil=>intro G G' h hG; exact h hG
   | cons j jl ih =>
     intro G G' h hG;simp only [All,List.contains_nil,Bool.false_eq_true,if_false] at hG ⊢;exact fun hd=>ih G G' h (hG hd)
  exact gen _ _ _ (fun h w' (hE:w' = w1)=>hE ▸ h) this)
end
end Go.Flow
namespace Go.Tw
open Go.RowKit Go.Flow
theorem Q0f {P:Program} {f:FuncId} {args:Array Value} {w:World} {K:Value -> World -> Prop} {R:Ending -> World -> Prop} (h:Calls P f args w R) (hk:∀ e w',R e w' -> ∃ u,e = .returned u /\ K u w') :
    gives P K (.ok (.enter f args) w):=h.mono hk
theorem Y5o (w:World) (cs:Array Value) (e:TypeId) (i:Nat):(w.alloc (.cells cs e)).cell? ⟨w.heap.size,i,none⟩ = cs[i]?:=by
 rw [World.cell?_alloc_at _ _ _ _ rfl]
theorem Ext.box (w:World) (o:Obj):Ext w (w.alloc o):=(Ext.refl w).alloc o
theorem Ext.drewN {a b:World} (h:Ext a b) (n:Nat):Ext a (b.drewN n):=by
 obtain ⟨h1,h2,h3,h4,h5⟩:=h;exact ⟨h1,h2,h3,h4,h5⟩
theorem addr_add (b off j:Nat):(⟨b,off,none⟩:Addr).add j = ⟨b,off + j,none⟩:=by unfold Addr.add; split <;> simp_all
theorem below_grown {α:Type} {w w':World} {base B:Nat} {e:TypeId} {enc:α -> Value} {v:Value} {xs:List α} (hown:Q0i w base e enc v xs) (hg:w.grownBy w' v.ownBlock) (hb:B <= base) (hB:B <= w.heap.size):Below B w w' :=
 Below.grown (Below.refl _ _) hg hB (fun k hk=>Nat.le_trans hb (World.ownsRow.lt hown k hk).1)
theorem Q0i.made {α:Type} (w:World) (base:Nat) (e:TypeId) (enc:α -> Value) (hb:base <= w.heap.size):Q0i (w.alloc (.cells #[] e)) base e enc (.slice (some ⟨w.heap.size,0,none⟩) 0 0) ([]:List α) :=
 World.ownsRow_made w #[] 0 hb (by unfold maxLen; omega) rfl
def Src {α:Type} (w:World) (enc:α -> Value) (v:Value) (ys:List α):Prop:=∃ A c,v = .slice A ys.length c /\ ∀ j (h:j < ys.length),∃ b off,A = some ⟨b,off,none⟩ /\ w.cell? ⟨b,off + j,none⟩ = some (enc ys[j])
theorem Q6o {P:Program} (w:World) (t ty e:TypeId) (i:TypeInfo) (ht:P.underlying t = some (.slice e)) (hi:P.info? e = some i) (b A:Option Addr) (s c c':Nat) (h:s <= c) :
    (Builtin.append_ #[t,t] ty #[.slice b s c,.slice A 0 c']).run P w = .ok (.slice b s c) w:=by
 cases A <;> cases b <;> simp [Builtin.append_,run_underlying ht,sizeOf,typeInfo,hi,Builtin.lenOf,Builtin.firstCells,loadCells,loadCellsFrom,storeCells,h]
theorem Q0i.shape {α:Type} {w:World} {base:Nat} {e:TypeId} {enc:α -> Value} {v:Value} {xs:List α} (h:Q0i w base e enc v xs):∃ b c,v = .slice b xs.length c /\ xs.length <= c:=by
 rcases h.2 with ⟨rfl,h0⟩ | ⟨g,cap,cur,rfl,_,_,hc,_⟩
 . exact ⟨none,0,by rw [h0],by omega⟩
 . exact ⟨_,cap,rfl,hc⟩
theorem Q6a {α:Type} {P:Program} {K:Value -> World -> Prop} {o:Oper} {a:Act} {w:World} (s x:Operand) (t:TypeId) (ho:o.op = .call { callee:=.builtin .append,args:=#[s,x],argTypes:=#[t,t] })
    (base:Nat) (e:TypeId) (i:TypeInfo) (z:Value) (bytes:Nat) (ht:P.underlying t = some (.slice e)) (hi:P.info? e = some i) (hz:i.zero = some z) (hsize:i.size = 1) (hby:i.bytes = bytes) (hzs:z.cells.size = 1)
    (enc:α -> Value) (v src:Value) (xs ys:List α) (hs:a.eval s = v) (hown:Q0i w base e enc v xs) (hx:a.eval x = src) (hsrc:Src w enc src ys) (h1:∀ y ∈ ys,(enc y).oneCell' = true)
    (h63:xs.length + ys.length <= 4398046511104) (hb:bytes <= 32) (hbase:base <= w.heap.size)
    (h:∀ v' w',Q0i w' base e enc v' (xs ++ ys) -> w.grownBy w' v.ownBlock -> K v' w'):gives P K ((execOp a.eval o).run P w):=by
 obtain ⟨A,c,rfl,hc⟩:=hsrc;cases ys with
 | nil =>
   obtain ⟨b,c',rfl,hcap⟩:=hown.shape;unfold execOp;simp only [ho,resolve,invoke,builtin,Sem.run_bind,Sem.run_pure,Result.andThen_ok,List.map_toArray,List.map_cons,List.map_nil,hs,hx];rw [List.length_nil,Q6o (P:=P) w t o.type e i ht hi b A xs.length c' c hcap];exact h _ _ (by simpa using hown) ⟨rfl,rfl,rfl,Nat.le_refl _,fun _ _ _=>rfl⟩
 | cons y ys =>
   obtain ⟨b0,off0,rfl,_⟩:=hc 0 (by simp)
   obtain ⟨v',w',hr,h2,h3,h4⟩:=run_append_own (P:=P) w base t o.type e i z 1 bytes ht hi hz hsize hby hzs (by decide) v xs.length (xs.map enc) hown ⟨b0,off0,none⟩ (y :: ys).length c ((y :: ys).map enc) (by simp) (fun j u hu=>by
    rw [List.getElem?_map] at hu
    rcases Nat.lt_or_ge j (y :: ys).length with hj | hj
    . rw [List.getElem?_eq_getElem hj] at hu
      simp only [Option.map_some,Option.some.injEq] at hu;obtain ⟨b',off',hA,hcell⟩:=hc j hj;cases hA;rw [<- hu,addr_add]; exact hcell
    . rw [List.getElem?_eq_none hj] at hu; cases hu) (fun u hu=>by obtain ⟨y,hy,rfl⟩:=List.mem_map.1 hu; exact h1 y hy) (by unfold maxLen; omega) (by
      have:(xs.length + (y :: ys).length) * bytes <= 4398046511104 * 32:=Nat.mul_le_mul h63 hb;omega) hbase
   unfold execOp;simp only [ho,resolve,invoke,builtin,Sem.run_bind,Sem.run_pure,Result.andThen_ok,List.map_toArray,List.map_cons,List.map_nil,hs,hx,hr];refine h v' w' ?_ h3;unfold Q0i
   simpa using h2
theorem Q1n {α:Type} {P:Program} {K:Value -> World -> Prop} {o:Oper} {a:Act} {w:World} (s x:Operand) (t:TypeId) (ho:o.op = .call { callee:=.builtin .append,args:=#[s,x],argTypes:=#[t,t] })
    (base:Nat) (e:TypeId) (i:TypeInfo) (z:Value) (bytes:Nat) (ht:P.underlying t = some (.slice e)) (hi:P.info? e = some i) (hz:i.zero = some z) (hsize:i.size = 1) (hby:i.bytes = bytes) (hzs:z.cells.size = 1)
    (enc:α -> Value) (v src:Value) (ys:List α) (hs:a.eval s = v) (hv:∃ g,v = .slice (some ⟨g,0,none⟩) 0 0 /\ base <= g /\ w.heap[g]? = some (.cells #[] e (0,0))) (hx:a.eval x = src) (hsrc:Src w enc src ys) (h1:∀ y ∈ ys,(enc y).oneCell' = true)
    (h63:ys.length <= 4398046511104) (hb:bytes <= 32) (hbase:base <= w.heap.size)
    (h:∀ v' w',Q0i w' base e enc v' ys -> Ext w w' -> K v' w'):gives P K ((execOp a.eval o).run P w):=by
 obtain ⟨g,rfl,hbg,hg⟩:=hv;have hown:Q0i w base e enc (.slice (some ⟨g,0,none⟩) 0 0) ([]:List α):=⟨by simp,.inr ⟨g,0,#[],rfl,hbg,hg,Nat.le_refl _,Nat.zero_le _,rfl,by simp⟩⟩
 obtain ⟨A,c,rfl,hc⟩:=hsrc;cases ys with
 | nil =>
   unfold execOp;simp only [ho,resolve,invoke,builtin,Sem.run_bind,Sem.run_pure,Result.andThen_ok,List.map_toArray,List.map_cons,List.map_nil,hs,hx];rw [List.length_nil,Q6o (P:=P) w t o.type e i ht hi _ A 0 0 c (Nat.le_refl _)];exact h _ _ hown (Ext.refl _)
 | cons y ys =>
   obtain ⟨b0,off0,rfl,_⟩:=hc 0 (by simp)
   have hnews:∀ j u,((y :: ys).map enc)[j]? = some u -> w.cell? ((⟨b0,off0,none⟩:Addr).add j) = some u:=fun j u hu=>by
    rw [List.getElem?_map] at hu
    rcases Nat.lt_or_ge j (y :: ys).length with hj | hj
    . rw [List.getElem?_eq_getElem hj] at hu
      simp only [Option.map_some,Option.some.injEq] at hu;obtain ⟨b',off',hA,hcell⟩:=hc j hj;cases hA;rw [<- hu,addr_add]; exact hcell
    . rw [List.getElem?_eq_none hj] at hu; cases hu
   have hbytes:(y :: ys).length * bytes <= 140737488355328:=by
    have:(y :: ys).length * bytes <= 4398046511104 * 32:=Nat.mul_le_mul h63 hb;omega
   obtain ⟨v',w',hr,h2,h3,h4⟩:=run_append_own (P:=P) w base t o.type e i z 1 bytes ht hi hz hsize hby hzs (by decide) _ 0 (([]:List α).map enc) hown ⟨b0,off0,none⟩ (y :: ys).length c ((y :: ys).map enc) (by simp) hnews (fun u hu=>by obtain ⟨y,hy,rfl⟩:=List.mem_map.1 hu; exact h1 y hy) (by unfold maxLen; omega) (by rw [Nat.zero_add]; exact hbytes) hbase
   have hgr:=run_append_grow (P:=P) w t o.type e i z ht hi hz ⟨g,0,none⟩ 0 0 [] (by simp) (by simp) ⟨b0,off0,none⟩ (y :: ys).length c ((y :: ys).map enc) (by rw [hsize]; simp) hnews (by simp) (by simp only [List.length_cons] at h63 ⊢; omega) (by rw [hby]; exact growslice_fits (by simp) (by rw [Nat.zero_add]; exact hbytes))
   rw [hr] at hgr;injection hgr with hv' hw';unfold execOp;simp only [ho,resolve,invoke,builtin,Sem.run_bind,Sem.run_pure,Result.andThen_ok,List.map_toArray,List.map_cons,List.map_nil,hs,hx,hr];refine h v' w' ?_ (by rw [hw']; exact ((Ext.refl w).drew).alloc _)
   unfold Q0i
   simpa using h2
theorem J0m {a b:ByteArray} {l:List UInt8} (hl:b.toList = l) (h:¬ a = b):(a.toList == l) = false:=by
 rw [<- hl,<- Go.beq_toListBytes]; exact X1a h
theorem toList_eq {a b:ByteArray} {l:List UInt8} (hl:b.toList = l) (h:a = b):(a.toList == l) = true:=by
 rw [<- hl,<- Go.beq_toListBytes]; exact str_eq h
end Go.Tw
namespace Go.Flow
open Go.RowKit Go.Tw
theorem eval_put_ne {a:Act} {d:Tmp} {u:Value} {t:Tmp} (h:d ≠ t):(a.put (some d) u).eval (.tmp t) = a.eval (.tmp t):=by
 show (a.tmps.setIfInBounds d u).getD t undef = a.tmps.getD t undef;simp only [Array.getD_eq_getD_getElem?,Array.getElem?_setIfInBounds_ne h]
theorem Q0c {a:Act} {u:Value} {x:Operand}:(a.put none u).eval x = a.eval x:=rfl
theorem size_put {a:Act} {d:Option Tmp} {u:Value}:(a.put d u).tmps.size = a.tmps.size:=Q8q a d u
theorem Q0a {a:Act} {u:Value} {t:Tmp} (h:t < a.tmps.size):(a.put (some t) u).eval (.tmp t) = u:=by
 show (a.tmps.setIfInBounds t u).getD t undef = u;simp [Array.getD_eq_getD_getElem?,h]
end Go.Flow
namespace Go.Tw
open Go.RowKit Go.Flow
def Q0u {α:Type} (w:World) (base:Nat) (e:TypeId) (k:Nat) (enc:α -> List Value) (v:Value) (l:List α):Prop:=w.ownsRow base e k v l.length (l.flatMap enc)
theorem Q0u.nil {α:Type} (w:World) (base:Nat) (e:TypeId) (k:Nat) (enc:α -> List Value):Q0u w base e k enc (.slice none 0 0) []:=World.ownsRow_nil w base e k
theorem Q0u.below {α:Type} {w w':World} {base:Nat} {e:TypeId} {k:Nat} {enc:α -> List Value} {v:Value} {l:List α} (h:Q0u w base e k enc v l) (hx:Ext w w'):Q0u w' base e k enc v l:=by
 obtain ⟨h1,h2⟩:=h;refine ⟨h1,?_⟩
 rcases h2 with h2 | ⟨g,cap,cur,hv,hb,hg,r⟩
 . exact .inl h2
 . refine .inr ⟨g,cap,cur,hv,hb,?_,r⟩
   rw [Below.block hx g (Array.getElem?_eq_some_iff.1 hg).1]; exact hg
theorem Q0u.snoc {α:Type} {w:World} {base:Nat} {e:TypeId} {k:Nat} {enc:α -> List Value} {v:Value} {l:List α} {x:α} (h:w.ownsRow base e k v (l.length + 1) (l.flatMap enc ++ enc x)):Q0u w base e k enc v (l ++ [x]):=by
 unfold Q0u; simpa using h
theorem X2u {α:Type} {enc:α -> List Value} {k:Nat} (hk:∀ x,(enc x).length = k):∀ l:List α,(l.flatMap enc).length = l.length * k
 | []=>by simp
 | x :: l=>by rw [List.flatMap_cons,List.length_append,hk,X2u hk l,List.length_cons,Nat.add_mul]; omega
theorem flat_get {α:Type} {enc:α -> List Value} {k:Nat} (hk:∀ x,(enc x).length = k):∀ (l:List α) (j i:Nat) (hj:j < l.length),i < k -> (l.flatMap enc)[j * k + i]? = (enc l[j])[i]?
 | x :: l,0,i,_,hi=>by
   rw [List.flatMap_cons,Nat.zero_mul,Nat.zero_add,List.getElem?_append_left (by rw [hk]; exact hi)]; rfl
 | x :: l,j + 1,i,hj,hi=>by
   have hj':j < l.length:=by simpa using hj
   rw [List.flatMap_cons,List.getElem?_append_right (by rw [hk,Nat.add_mul]; omega),hk,show (j + 1) * k + i - k = j * k + i from by rw [Nat.add_mul]; omega,flat_get hk l j i hj' hi]
   rfl
theorem Q0u.rows {α:Type} {w:World} {base:Nat} {e:TypeId} {k:Nat} {enc:α -> List Value} {v:Value} {l:List α} {R:World -> (Nat -> Value) -> α -> Prop} (h:Q0u w base e k enc v l) (hl:l.length <= 17592186043904)
    (hk:∀ x,(enc x).length = k) (hR:∀ x ∈ l,R w (fun i=>((enc x)[i]?).getD undef) x) (hloc:∀ c c' x,(∀ i,i < k -> c i = c' i) -> R w c x -> R w c' x):Rows k R w v l:=by
 refine ⟨fun j=>((l.flatMap enc)[j]?).getD undef,?_,fun j hj=>hloc _ _ _ (fun i hi=>?_) (hR _ (List.getElem_mem hj))⟩
 . obtain ⟨_,h2⟩:=h
   rcases h2 with ⟨rfl,h0⟩ | ⟨g,cap,cur,rfl,_,hg,hcap,_,_,htake⟩
   . exact ⟨none,0,by rw [h0],hl,by omega,fun j hj=>by rw [h0,Nat.zero_mul] at hj; omega⟩
   . refine ⟨some ⟨g,0,none⟩,cap,rfl,hl,hcap,fun j hj=>⟨g,0,rfl,?_⟩⟩
     rw [Nat.zero_add];have h1:=congrArg (fun l=>l[j]?) htake;simp only [List.getElem?_take,hj,if_true] at h1;have hlt:j < (l.flatMap enc).length:=by rw [X2u hk]; exact hj
     rw [List.getElem?_eq_getElem hlt] at h1;simp only [World.cell?,hg,List.getElem?_eq_getElem hlt,Option.getD_some]
     simpa using h1
 . show ((enc l[j])[i]?).getD undef = ((l.flatMap enc)[j * k + i]?).getD undef
   rw [flat_get hk l j i hj hi]
theorem Z4y (w:World) (xs:List Value) (e:TypeId):∀ j u,xs[j]? = some u -> (w.alloc (.cells xs.toArray e)).cell? ((⟨w.heap.size,0,none⟩:Addr).add j) = some u:=by
 intro j u h;rw [addr_add,Nat.zero_add,World.cell?_alloc_at _ _ _ _ rfl]
 simpa using h
def K0q (x:Nat × Int):List Value:=[.int .i64 (x.1:Nat),.int .i64 x.2]
theorem Q0u.gts {w:World} {base:Nat} {e:TypeId} {v:Value} {l:List (Nat × Int)} {R:World -> (Nat -> Value) -> Nat × Int -> Prop} (hR:∀ w c x,R w c x ↔ c 0 = .int .i64 (x.1:Nat) /\ c 1 = .int .i64 x.2) (h:Q0u w base e 2 K0q v l) (hl:l.length <= 17592186043904):Rows 2 R w v l :=
 h.rows hl (fun _=>rfl) (fun x _=>(hR _ _ _).2 ⟨rfl,rfl⟩) (fun c c' x hc h=>(hR _ _ _).2 (by have:=(hR _ _ _).1 h; rw [<- hc 0 (by omega),<- hc 1 (by omega)]; exact this))
end Go.Tw
namespace Go.Tw
def X1l:List Bool -> Nat
 | []=>0
 | b :: l=>b.toNat + 2 * X1l l
theorem Q6j:∀ (l:List Bool) (i:Nat),(X1l l).testBit i = bx l i
 | [],i=>by simp [X1l,bx]
 | b :: l,0=>by
   rw [X1l,Nat.testBit_zero];cases b <;> simp [bx] <;> omega
 | b :: l,i + 1=>by
   rw [X1l,Nat.testBit_succ,show (b.toNat + 2 * X1l l) / 2 = X1l l from by cases b <;> simp <;> omega,Q6j l i]
   simp [bx]
theorem Z1w (n i:Nat):(2 ^ n).testBit i = decide (i = n):=by
 rw [Nat.testBit_two_pow]; by_cases h:n = i
 . subst h; simp
 . have h2:¬ i = n:=fun e=>h e.symm
   simp [h,h2]
theorem Z8a (l m:List Bool) (i:Nat):bx (l ++ m) i = if i < l.length then bx l i else bx m (i - l.length):=by
 unfold bx
 split
 . rename_i h; simp [List.getD_eq_getElem?_getD,List.getElem?_append_left h]
 . rename_i h; simp [List.getD_eq_getElem?_getD,List.getElem?_append_right (by omega:l.length <= i)]
theorem Z4o {l:List Bool} {i:Nat} (h:l.length <= i):bx l i = false:=by simp [bx,h]
theorem Z5v (l:List Bool) (b:Bool):X1l (l ++ [b]) = if b then X1l l ||| 2 ^ l.length else X1l l:=by
 apply Nat.eq_of_testBit_eq
 intro i;rw [Q6j,Z8a]
 by_cases h:i < l.length
 . rw [if_pos h]
   cases b with
   | false=>simp only [Bool.false_eq_true,if_false]; rw [Q6j]
   | true=>simp only [if_true]; rw [Nat.testBit_or,Z1w,Q6j,decide_eq_false (by omega:¬ i = l.length),Bool.or_false]
 . rw [if_neg h]
   cases b with
   | false => simp only [Bool.false_eq_true, if_false]; rw [Q6j, Z4o (l := l) (by omega)]; rcases Nat.lt_or_ge (i - l.length) 1 with h' | h'
              . rw [show i - l.length = 0 from by omega]; rfl
              . exact Z4o (by simpa using h')
   | true =>
     simp only [if_true];rw [Nat.testBit_or,Z1w,Q6j,Z4o (l:=l) (by omega),Bool.false_or]
     by_cases h':i = l.length
     . subst h'; simp [bx]
     . rw [decide_eq_false h']; exact Z4o (by simp; omega)
def J6c (a:Nat) (x:Int):Nat:=a ||| 2 ^ x.toNat
def Y7v (a:Nat) (l:List Int):Nat:=l.foldl J6c a
def Y8k (l:List Int):Nat:=Y7v 0 l
theorem Z2z (a:Nat) (x:Int) (l:List Int):Y7v a (x :: l) = Y7v (J6c a x) l:=rfl
theorem Y2u:∀ (l:List Int) (a i:Nat),(∀ x ∈ l,0 <= x) -> (Y7v a l).testBit i = (a.testBit i || has l i)
 | [],a,i,_=>by simp [Y7v,has]
 | x :: l,a,i,h=>by
   rw [Z2z,Y2u l _ i (fun y hy=>h y (List.mem_cons_of_mem _ hy)),J6c,Nat.testBit_or,Z1w,Z4k,Bool.or_assoc];have h0:=h x (List.mem_cons_self ..)
   by_cases e:x = (i:Int)
   . subst e; simp
   . have e1:¬ i = x.toNat:=by omega
     rw [decide_eq_false e1,beq_false_of_ne e]
theorem Z5q {l:List Int} (h:∀ x ∈ l,0 <= x) (i:Nat):(Y8k l).testBit i = has l i:=by
 unfold Y8k; rw [Y2u l 0 i h]; simp
theorem Q2q (n:Int) (h0:0 <= n) (h1:n < 2 ^ 62):IntKind.i64.wrap n = n:=by rw [IntKind.wrap_i64]; omega
theorem K0c {a b:Nat} (ha:a < 2 ^ 62) (hb:b < 2 ^ 62):bits .and .i64 (a:Int) (b:Int) = ((a &&& b:Nat):Int):=(bits_nat .i64 62 (by decide) Q2q a b ha hb).1
theorem J9k {n:Nat} (h:n < 62):IntKind.i64.wrap ((2:Int) ^ min n 64) = ((2 ^ n:Nat):Int):=by
 rw [show min n 64 = n from by omega,Q2q _ (Int.le_of_lt (Int.pow_pos (by omega))) (by have:(2:Nat) ^ n < 2 ^ 62:=Nat.pow_lt_pow_right (by omega) h; exact_mod_cast this)]
 simp
theorem J9q (s i:Nat):s.testBit i = decide (s / 2 ^ i % 2 = 1):=by rw [Nat.testBit_eq_decide_div_mod_eq]
end Go.Tw
namespace Go.Tw
def f1 (y:Nat):Nat:=(y / 2 &&& 85) + (y &&& 85)
def f2 (y:Nat):Nat:=(y / 4 &&& 51) + (y &&& 51)
def f3 (y:Nat):Nat:=(y / 16 + y) &&& 15
def J9t (n k:Nat):Nat:=(List.range k).countP fun i=>n.testBit i
end Go.Tw
namespace Go.Tw
theorem Q1r {l:List Int}:Q0k l = 0 ↔ ∀ x ∈ l,x = 0:=by
 induction l with
 | nil=>simp [Q0k]
 | cons y l ih =>
   unfold Q0k
   by_cases h:y = 0
   . simp [h,ih]
   . simp [h]
structure Fit (t:Tree):Prop where
 nb:t.basics.length <= 1000
 nc:t.causes.length <= 1000
 ng:t.gates.length <= 1000
 inp:∀ k,k < t.gates.length -> ∀ x ∈ Q7p t.gates k,0 <= x /\ x < (t.basics.length:Int) + k
theorem Y0y {l:List Int} {n:Int} (h:Z4u l n = 0):(∀ x ∈ l,0 <= x /\ x < n) /\ Z8z l = true:=by
 unfold Z4u at h
 split at h
 . cases h
 . split at h
   . rename_i h1 h2
     refine ⟨fun x hx=>?_,h2⟩;unfold K0d at h1;rw [Bool.not_eq_true,List.any_eq_false] at h1;have:=h1 x hx;simp only [decide_eq_true_eq] at this;omega
   . cases h
structure Valid (t:Tree):Prop where
 nb:1 <= t.basics.length
 ng:1 <= t.gates.length
 size:t.size <= 12
 ng':t.gates.length <= 32
 event:∀ i,i < t.size -> t.X7o i = 0
 gate:∀ i,i < t.gates.length -> t.Y0p i = 0
theorem Valid.of {t:Tree} (h:t.err = 0):Valid t:=by
 unfold Tree.err at h
 split at h
 . cases h
 . split at h
   . cases h
   . rename_i h1 h2
     rw [Q1r] at h;refine ⟨by omega,by omega,by omega,by omega,fun i hi=>h _ ?_,fun i hi=>h _ ?_⟩
     . exact List.mem_append_left _ (List.mem_map.2 ⟨i,List.mem_range.2 hi,rfl⟩)
     . exact List.mem_append_right _ (List.mem_map.2 ⟨i,List.mem_range.2 hi,rfl⟩)
theorem Valid.inputs {t:Tree} (h:Valid t) {k:Nat} (hk:k < t.gates.length):X5m (Q7p t.gates k) ((t.basics.length:Int) + k) = 0:=by
 have:=h.gate k hk;unfold Tree.Y0p Z9n at this;rw [Q1r] at this;exact this _ (by simp)
theorem X6o {l:List Int} {n:Int} (h:X5m l n = 0):l ≠ [] /\ Z4u l n = 0:=by
 unfold X5m at h
 split at h
 . cases h
 . exact ⟨‹_›,h⟩
theorem Valid.chance {t:Tree} (h:Valid t) {i:Nat} (hi:i < t.size):0 <= t.X7r i /\ t.X7r i <= 16:=by
 have:=h.event i hi;unfold Tree.X7o at this;rw [Q1r] at this;have:=this (Q0g (t.X7r i) 0 16) (by simp)
 unfold Q0g at this
 split at this
 . cases this
 . omega
end Go.Tw
namespace Go.Tw
open Go.RowKit
theorem J2o {x:Int} {l:List Int} (h:Z8z (x :: l) = true):∀ y ∈ l,x < y:=by
 induction l generalizing x with
 | nil=>intro y hy; cases hy
 | cons z l ih =>
   simp only [Z8z,Bool.and_eq_true,decide_eq_true_eq] at h;intro y hy
   rcases List.mem_cons.1 hy with rfl | hy
   . exact h.1
   . exact Int.lt_trans h.1 (ih h.2 y hy)
theorem J2g {x:Int} {l:List Int} (h:Z8z (x :: l) = true):Z8z l = true:=by
 cases l with
 | nil=>rfl
 | cons z l=>simp only [Z8z,Bool.and_eq_true] at h; exact h.2
theorem count_one (a:Nat) (p:Nat -> Bool):∀ k,(List.range k).countP (fun i=>p i && decide (i = a)) = if a < k then (if p a then 1 else 0) else 0
 | 0=>rfl
 | k + 1=>by
   rw [List.range_succ,List.countP_append,count_one a p k,List.countP_singleton]
   by_cases h:a < k
   . have h2:¬ k = a:=by omega
     have h3:a < k + 1:=by omega
     simp [h,h2,h3]
   . by_cases h2:k = a
     . subst h2; simp
     . have h3:¬ a < k + 1:=by omega
       simp [h,h2,h3]
theorem Z2l (l:List Nat) (p q:Nat -> Bool) (h:∀ i ∈ l,¬ (p i = true /\ q i = true)):l.countP (fun i=>p i || q i) = l.countP p + l.countP q:=by
 induction l with
 | nil=>rfl
 | cons x l ih =>
   have h0:=h x (List.mem_cons_self ..);rw [List.countP_cons,List.countP_cons,List.countP_cons,ih (fun i hi=>h i (List.mem_cons_of_mem _ hi))];cases hp:p x <;> cases hq:q x <;> simp_all <;> omega
theorem X3b (k:Nat) (p:Nat -> Bool):∀ l:List Int,Z8z l = true -> (∀ x ∈ l,0 <= x /\ x < (k:Int)) -> (List.range k).countP (fun i=>p i && has l i) = l.countP fun x=>p x.toNat
 | [],_,_=>by simp [has]
 | x :: l,ha,hb=>by
   have h0:=hb x (List.mem_cons_self ..);have e:(List.range k).countP (fun i=>p i && has (x :: l) i) = (List.range k).countP (fun i=>(p i && decide (i = x.toNat)) || (p i && has l i)):=by
    refine List.countP_congr fun i _=>?_;rw [Z4k];have:(x == (i:Int)) = decide (i = x.toNat):=by
     by_cases h:x = (i:Int)
     . subst h; simp
     . rw [beq_false_of_ne h,decide_eq_false (by omega)]
    rw [this];cases p i <;> simp
   rw [e,Z2l,count_one,if_pos (by omega),X3b k p l (J2g ha) (fun y hy=>hb y (List.mem_cons_of_mem _ hy)),List.countP_cons]
   . omega
   . rintro i _ ⟨h1,h2⟩
     simp only [Bool.and_eq_true,decide_eq_true_eq] at h1 h2;have:=J2o ha (i:Int) (J6y.1 h2.2);omega
theorem Z0y {out:List Bool} {l:List Int} (ha:Z8z l = true) (hb:∀ x ∈ l,0 <= x /\ x < 64):J9t (X1l out &&& Y8k l) 64 = failing out l:=by
 unfold J9t failing;rw [<- X3b 64 (fun i=>bx out i) l ha hb];refine List.countP_congr fun i _=>?_;rw [Nat.testBit_and,Q6j,Z5q (fun x hx=>(hb x hx).1)]
namespace Tree
def maskAt (t:Tree) (k:Nat):Nat:=if k < t.basics.length then 2 ^ k else Y8k (Q8w t.causes (k - t.basics.length))
def masks (t:Tree):List Int:=(List.range t.size).map fun k=>(t.maskAt k:Int)
def gt (t:Tree) (k:Nat):Nat × Int:=(Y8k (Q7p t.gates k),J4p (Z3m t.gates k) (Z9q t.gates k) (Q7p t.gates k).length)
def gts (t:Tree):List (Nat × Int):=(List.range t.gates.length).map t.gt
end Tree
theorem Z3g (t:Tree):t.gts.length = t.gates.length:=by simp [Tree.gts]
theorem Valid.members {t:Tree} (h:Valid t) {k:Nat} (hk:k < t.causes.length):∀ x ∈ Q8w t.causes k,0 <= x /\ x < (t.basics.length:Int):=by
 have h1:=h.event (t.basics.length + k) (by unfold Tree.size; omega)
 unfold Tree.X7o at h1;rw [Q1r] at h1;have h2:=h1 (if t.basics.length + k < t.basics.length then 0 else X5m (Q8w t.causes (t.basics.length + k - t.basics.length)) t.basics.length) (by simp)
 rw [if_neg (by omega),Nat.add_sub_cancel_left] at h2
 exact (Y0y (X6o h2).2).1
theorem X2p (t:Tree) (ev:Nat -> Bool):∀ k,(t.Q9l ev k).length = t.basics.length + k
 | 0=>by simp [Tree.Q9l,Tree.Z9u]
 | k + 1=>by rw [Tree.Q9l,List.length_append,X2p t ev k]; simp; omega
theorem Valid.J3r {t:Tree} (h:Valid t) {k:Nat} (hk:k < t.gates.length):Z8z (Q7p t.gates k) = true /\ (∀ x ∈ Q7p t.gates k,0 <= x /\ x < 44):=by
 have h1:=Y0y (X6o (h.inputs hk)).2;have:=h.size; have:=h.ng';unfold Tree.size at *;exact ⟨h1.2,fun x hx=>by have:=h1.1 x hx; omega⟩
theorem Valid.step {t:Tree} (h:Valid t) (ev:Nat -> Bool) {k:Nat} (hk:k < t.gates.length) :
    X1l (t.Q9l ev (k + 1)) = if (t.gt k).2 <= (J9t (X1l (t.Q9l ev k) &&& (t.gt k).1) 64:Int) then X1l (t.Q9l ev k) ||| 2 ^ (t.basics.length + k) else X1l (t.Q9l ev k):=by
 obtain ⟨ha,hb⟩:=h.J3r hk;rw [Tree.Q9l,Z5v,X2p,Tree.gt,Z0y ha (fun x hx=>by have:=hb x hx; omega)]
 unfold J8b;simp only [decide_eq_true_eq]
def RGt (_:World) (c:Nat -> Value) (x:Nat × Int):Prop:=c 0 = .int .i64 (x.1:Nat) /\ c 1 = .int .i64 x.2
theorem RGt.ext (w w':World) (c:Nat -> Value) (x:Nat × Int) (_:Ext w w') (h:RGt w c x):RGt w' c x:=h
def Z5w:World -> Value -> List (Nat × Int) -> Prop:=Go.Tw.Rows 2 RGt
theorem Z5w.ext {w w':World} {v:Value} {l:List (Nat × Int)} (h:Z5w w v l) (hx:Ext w w'):Z5w w' v l:=Rows.ext RGt.ext h hx
structure K0b (w:World) (fv gv:Value) (t:Tree):Prop where
 fails:Q0e w fv t.masks
 gates:Z5w w gv t.gts
theorem K0b.ext {w w':World} {fv gv:Value} {t:Tree} (h:K0b w fv gv t) (hx:Ext w w'):K0b w' fv gv t:=⟨h.fails.ext hx,h.gates.ext hx⟩
theorem Z5w.opened {w:World} {v:Value} {t:Tree} (h:Z5w w v t.gts) :
    ∃ A cap,v = .slice A t.gates.length cap /\ t.gates.length <= 17592186043904 /\ t.gates.length <= cap /\ ∀ k,k < t.gates.length -> ∃ b off,A = some ⟨b,off,none⟩ /\ b < w.heap.size /\
     w.cell? ⟨b,off + k * 2,none⟩ = some (.int .i64 ((t.gt k).1:Nat)) /\ w.cell? ⟨b,off + k * 2 + 1,none⟩ = some (.int .i64 (t.gt k).2):=by
 obtain ⟨c,⟨A,cap,hv,hn,hcap,hc⟩,h2⟩:=h;rw [Z3g] at hv hn hcap hc;refine ⟨A,cap,hv,hn,hcap,fun k hk=>?_⟩;obtain ⟨b,off,hA,h0⟩:=hc (k * 2) (by omega)
 obtain ⟨b',off',hA',h1⟩:=hc (k * 2 + 1) (by omega)
 rw [hA] at hA'; cases hA';obtain ⟨e0,e1⟩:=h2 k (by rw [Z3g]; exact hk)
 have e:t.gts[k]'(by rw [Z3g]; exact hk) = t.gt k:=by simp [Tree.gts]
 rw [e] at e0 e1;simp only [Nat.add_zero] at e0;refine ⟨b,off,hA,World.block_lt_of_cell? w _ h0,?_,?_⟩
 . rw [h0,e0]
 . rw [Nat.add_assoc]; exact h1.trans (congrArg some e1)
end Go.Tw
namespace Go.Tw
open Go.RowKit Go.Flow
def Blk (w:World) (g:Nat) (T:TypeId) (cs:Array Value):Prop:=w.heap[g]? = some (.cells cs T (0,0))
theorem Blk.made (w:World) (T:TypeId) (cs:Array Value):Blk (w.alloc (.cells cs T)) w.heap.size T cs:=by show (w.heap.push _)[w.heap.size]? = _; simp
theorem Blk.cell {w:World} {g:Nat} {T:TypeId} {cs:Array Value} (h:Blk w g T cs) (k:Nat):w.cell? ⟨g,k,none⟩ = cs[k]?:=by unfold Blk at h; simp [World.cell?,h]
theorem Blk.frozen {w:World} {g:Nat} {T:TypeId} {cs:Array Value} (h:Blk w g T cs) (k:Nat):w.frozen? ⟨g,k,none⟩ = false:=by unfold Blk at h; simp [World.frozen?,h]
theorem Blk.set {w:World} {g:Nat} {T:TypeId} {cs:Array Value} (h:Blk w g T cs) (k:Nat) (u:Value):Blk (w.setCell ⟨g,k,none⟩ u) g T (cs.setIfInBounds k u):=by
 unfold Blk at h ⊢;simp only [World.setCell,Array.getElem?_modify,if_true,h,Option.map_some]; rfl
theorem Blk.below {w w':World} {g B:Nat} {T:TypeId} {cs:Array Value} (h:Blk w g T cs) (hb:Below B w w') (hg:g < B):Blk w' g T cs:=by
 unfold Blk at h ⊢; rw [hb.block g hg]; exact h
theorem Blk.lt {w:World} {g:Nat} {T:TypeId} {cs:Array Value} (h:Blk w g T cs):g < w.heap.size:=(Array.getElem?_eq_some_iff.1 h).1
theorem Blk.ext {w w':World} {g:Nat} {T:TypeId} {cs:Array Value} (h:Blk w g T cs) (hx:Ext w w'):Blk w' g T cs:=h.below hx h.lt
theorem Blk.drew {w:World} {g:Nat} {T:TypeId} {cs:Array Value} (h:Blk w g T cs):Blk w.drew g T cs:=h
theorem Q0i.setCell {α:Type} {w:World} {base:Nat} {e:TypeId} {enc:α -> Value} {v:Value} {l:List α} (h:Q0i w base e enc v l) {p:Addr} (hp:p.block < base) (u:Value):Q0i (w.setCell p u) base e enc v l:=by
 obtain ⟨h1,h2⟩:=h;refine ⟨h1,?_⟩
 rcases h2 with h2 | ⟨g,cap,cur,hv,hb,hg,r⟩
 . exact .inl h2
 . exact .inr ⟨g,cap,cur,hv,hb,by rw [Below.heap_setCell _ _ _ _ (by omega)]; exact hg,r⟩
theorem Z3r {P:Program} {w:World} {g:Nat} {T:TypeId} {cs:Array Value} (h:Blk w g T cs):(loadCells ⟨g,0,none⟩ cs.size).run P w = .ok cs w:=by
 have gen:∀ (n i:Nat) (acc:Array Value),i + n = cs.size -> acc.toList = cs.toList.take i -> (loadCellsFrom ⟨g,0,none⟩ i n acc).run P w = .ok cs w:=by
  intro n
  induction n with
  | zero =>
    intro i acc hi ha;have:acc = cs:=by
     apply Array.toList_inj.1
     rw [ha,List.take_of_length_le (by simp; omega)]
    subst this;simp [loadCellsFrom]
  | succ n ih =>
    intro i acc hi ha;have h0:=h.cell i;have hlt:i < cs.size:=by omega
    rw [Array.getElem?_eq_getElem hlt] at h0;have ea:(⟨g,0,none⟩:Addr).add i = ⟨g,i,none⟩:=by rw [addr_add,Nat.zero_add]
    rw [loadCellsFrom,ea];simp only [Sem.run_bind,load,Sem.run,h0,Result.andThen_ok];refine ih (i + 1) _ (by omega) ?_
    rw [Array.toList_push,ha,<- Array.getElem_toList (by simpa using hlt),List.take_append_getElem]
 exact gen cs.size 0 #[] (by omega) rfl
theorem Q9m {P:Program} {g:Nat} {T:TypeId}:∀ (vs:List Value) (i:Nat) (w:World) (cs:Array Value),Blk w g T cs -> (∀ u ∈ vs,u.oneCell' = true) -> i + vs.length = cs.size ->
    ∃ w',(storeCells ⟨g,0,none⟩ vs i).run P w = .ok () w' /\ Blk w' g T (cs.toList.take i ++ vs).toArray /\ (∀ n,n <= g -> Below n w w') /\ ∀ k,k ≠ g -> w'.heap[k]? = w.heap[k]?
 | [],i,w,cs,h,_,hi=>⟨w,by simp [storeCells],by rw [List.take_of_length_le (by simp at hi ⊢; omega),List.append_nil]; exact h,fun _ _=>Below.refl _ _,fun _ _=>rfl⟩
 | v :: vs,i,w,cs,h,h1,hi=>by
   have hlt:i < cs.size:=by simp at hi; omega
   have h0:=h.cell i;rw [Array.getElem?_eq_getElem hlt] at h0;have ea:(⟨g,0,none⟩:Addr).add i = ⟨g,i,none⟩:=by rw [addr_add,Nat.zero_add]
   obtain ⟨w',hr,hb,hl,ho⟩:=Q9m vs (i + 1) (w.setCell ⟨g,i,none⟩ v) (cs.setIfInBounds i v) (h.set i v) (fun u hu=>h1 u (List.mem_cons_of_mem _ hu)) (by simp at hi ⊢; omega)
   refine ⟨w',?_,?_,fun n hn=>Below.trans ((Below.refl n w).setCell (p:=⟨g,i,none⟩) hn v) (hl n hn),fun k hk=>(ho k hk).trans (Below.heap_setCell _ _ _ _ hk)⟩
   . rw [storeCells,ea]
     simp only [Sem.run_bind,run_store P w _ v _ (h1 v (List.mem_cons_self ..)),h0,h.frozen i,Bool.false_eq_true,if_false,Result.andThen_ok];exact hr
   . have e:(cs.setIfInBounds i v).toList.take (i + 1) ++ vs = cs.toList.take i ++ v :: vs:=by
      rw [Array.toList_setIfInBounds,List.take_set,List.take_succ_eq_append_getElem (by simpa using hlt)]
      simp [Nat.min_eq_left (Nat.le_of_lt hlt)]
     rw [e] at hb; exact hb
theorem Q4x {P:Program} {w:World} {g:Nat} {T BT:TypeId} {cs:Array Value} (h:Blk w g BT cs) (hA:∀ w,(isAgg T).run P w = .ok true w) (hS:∀ w,(sizeOf T).run P w = .ok cs.size w):(loadVar T ⟨g,0,none⟩).run P w = .ok (.agg cs) w:=by
 unfold loadVar;simp only [Sem.run_bind,hA,Result.andThen_ok,if_true,hS,Z3r h,Sem.run_pure]
theorem Q0j {P:Program} {w:World} {ops:Array Oper} {rest:List Oper} {o:Oper} {a:Act} {Q:Exit -> Act -> World -> Prop} (hg:o.guard = none) (p:Operand) (T:TypeId) (hop:o.op = .load T p)
    (hA:∀ w,(isAgg T).run P w = .ok true w) {n:Nat} (hS:∀ w,(sizeOf T).run P w = .ok n w) {g:Nat} (hp:a.eval p = .pointer (some ⟨g,0,none⟩)) {BT:TypeId} {cs:Array Value} (hb:Blk w g BT cs) (hn:cs.size = n)
    (hK:wpList P ops Q rest (a.put o.dst (.agg cs)) w):wpList P ops Q (o :: rest) a w:=by
 subst hn;refine wpList_plain hg fun K' hK'=>?_;unfold Oper.wp;have hr:(execOp a.eval o).run P w = .ok (.value (.agg cs)) w:=by
  unfold execOp;simp only [hop,hp,Instr.loadAt,Instr.sureAddr,Sem.run_bind,Sem.run_pure,Result.andThen_ok,Q4x hb hA hS]
 rw [hr];exact hK' _ _ hK
theorem Q0t {P:Program} {w:World} {ops:Array Oper} {rest:List Oper} {o:Oper} {a:Act} {Q:Exit -> Act -> World -> Prop} (hg:o.guard = none) (p x:Operand) (T:TypeId) (hop:o.op = .store T p x)
    {n:Nat} (hS:∀ w,(sizeOf T).run P w = .ok n w) {g:Nat} (hp:a.eval p = .pointer (some ⟨g,0,none⟩)) {BT:TypeId} {cs vs:Array Value} (hx:a.eval x = .agg vs) (hb:Blk w g BT cs) (hn:cs.size = n) (hv:vs.size = n) (h1:∀ u ∈ vs.toList,u.oneCell' = true)
    (hK:∀ w',Blk w' g BT vs -> (∀ n,n <= g -> Below n w w') -> (∀ k,k ≠ g -> w'.heap[k]? = w.heap[k]?) -> wpList P ops Q rest (a.put o.dst undef) w'):wpList P ops Q (o :: rest) a w:=by
 refine wpList_plain hg fun K' hK'=>?_;unfold Oper.wp;obtain ⟨w',hr,hb',hl,ho⟩:=Q9m (P:=P) vs.toList 0 w cs hb h1 (by simp [hn,hv])
 have hs:(storeVar T ⟨g,0,none⟩ (.agg vs)).run P w = .ok () w':=by
  have hc:(Value.agg vs).cells = vs:=rfl;unfold storeVar;simp only [Sem.run_bind,hS,Result.andThen_ok];rw [if_neg (by rw [hc]; simp [hv])]
  exact hr
 have hr2:(execOp a.eval o).run P w = .ok .skip w':=by
  unfold execOp;simp only [hop,hp,hx,Instr.storeAt,Instr.sureAddr,Sem.run_bind,Sem.run_pure,Result.andThen_ok,hs]
 rw [hr2];exact hK' _ _ (hK w' (by simpa using hb') hl ho)
theorem Q2v {P:Program} {fn:Func} {p:Tmp} {T:TypeId} (h:fn.results = #[.cell p T]) {tmps:Array Value} {w:World} {g:Nat} (ht:tmps.getD p undef = .pointer (some ⟨g,0,none⟩)) {BT:TypeId} {cs:Array Value} (hb:Blk w g BT cs)
    (hA:∀ w,(isAgg T).run P w = .ok true w) (hS:∀ w,(sizeOf T).run P w = .ok cs.size w):(results fn tmps).run P w = .ok (.agg cs) w:=by
 unfold results;rw [h];simp only [List.mapM_toArray,List.mapM_cons,List.mapM_nil,Sem.run_bind,Sem.run_pure,ht,asAddr];simp [Q4x hb hA hS]
theorem Q5q {P:Program} {K:Value -> World -> Prop} {o:Oper} {a:Act} {w:World} {T:TypeId} (p x:Operand) (ho:o.op = .store T p x) (hT:∀ w,(sizeOf T).run P w = .ok 1 w) {g k:Nat} (hp:a.eval p = .pointer (some ⟨g,k,none⟩)) {u:Value} (hx:a.eval x = u) (hu:u.cells = #[u]) (h1:u.oneCell' = true) {BT:TypeId} {cs:Array Value} (hb:Blk w g BT cs) (hk:k < cs.size)
    (h:∀ v,K v (w.setCell ⟨g,k,none⟩ u)):gives P K ((execOp a.eval o).run P w):=by
 have h0:=hb.cell k;rw [Array.getElem?_eq_getElem hk] at h0;have hs:(storeVar T ⟨g,k,none⟩ u).run P w = .ok () (w.setCell ⟨g,k,none⟩ u):=by
  unfold storeVar;simp only [Sem.run_bind,hT,Result.andThen_ok,hu];rw [if_neg (by simp)]
  simp only [storeCells,Sem.run_bind,Sem.run_pure];have ea:(⟨g,k,none⟩:Addr).add 0 = ⟨g,k,none⟩:=by rw [addr_add,Nat.add_zero]
  rw [ea,run_store P w _ u _ h1];simp only [h0,hb.frozen k,Bool.false_eq_true,if_false,Result.andThen_ok]
 unfold execOp;simp only [ho,hp,hx,Instr.storeAt,Instr.sureAddr,Sem.run_bind,Sem.run_pure,Result.andThen_ok,hs];exact h _
theorem Q0i.only {α:Type} {w w':World} {base g:Nat} {e:TypeId} {enc:α -> Value} {v:Value} {l:List α} (h:Q0i w base e enc v l) (hg:g < base) (ho:∀ k,k ≠ g -> w'.heap[k]? = w.heap[k]?):Q0i w' base e enc v l:=by
 obtain ⟨h1,h2⟩:=h;refine ⟨h1,?_⟩
 rcases h2 with h2 | ⟨g',cap,cur,hv,hb,hg',r⟩
 . exact .inl h2
 . exact .inr ⟨g',cap,cur,hv,hb,by rw [ho _ (by omega)]; exact hg',r⟩
theorem Q0u.only {α:Type} {w w':World} {base g k:Nat} {e:TypeId} {enc:α -> List Value} {v:Value} {l:List α} (h:Q0u w base e k enc v l) (hg:g < base) (ho:∀ k,k ≠ g -> w'.heap[k]? = w.heap[k]?):Q0u w' base e k enc v l:=by
 obtain ⟨h1,h2⟩:=h;refine ⟨h1,?_⟩
 rcases h2 with h2 | ⟨g',cap,cur,hv,hb,hg',r⟩
 . exact .inl h2
 . exact .inr ⟨g',cap,cur,hv,hb,by rw [ho _ (by omega)]; exact hg',r⟩
theorem Q0u.shape {α:Type} {w:World} {base k:Nat} {e:TypeId} {enc:α -> List Value} {v:Value} {l:List α} (h:Q0u w base e k enc v l):∃ b c,v = .slice b l.length c /\ l.length <= c:=by
 rcases h.2 with ⟨rfl,h0⟩ | ⟨g,cap,cur,rfl,_,_,hc,_⟩
 . exact ⟨none,0,by rw [h0],by omega⟩
 . exact ⟨_,cap,rfl,hc⟩
theorem Q9z (w:World) (p:Addr) (u:Value):∀ k,k ≠ p.block -> (w.setCell p u).heap[k]? = w.heap[k]?:=fun _ hk=>Below.heap_setCell _ _ _ _ hk
theorem Q2y (w:World) (T:TypeId) (cs:Array Value):∃ W,w.alloc (.cells cs T) = W /\ Blk W w.heap.size T cs /\ Hid (Ext w W) /\ W.heap.size = w.heap.size + 1:=⟨_,rfl,Blk.made _ _ _,Lib.hid (Ext.box _ _),by simp⟩
theorem Q6u (w:World) (T:TypeId) (cs:Array Value) (T':TypeId) (cs':Array Value):∃ W,(w.alloc (.cells cs T)).alloc (.cells cs' T') = W /\ Blk W w.heap.size T cs /\ Blk W (w.heap.size + 1) T' cs' /\ Hid (Ext w W) /\ W.heap.size = w.heap.size + 1 + 1:=by
 obtain ⟨X,rfl,h1,h2,h3⟩:=Q2y w T cs;refine ⟨_,rfl,h1.ext (Ext.box _ _),?_,Lib.hid (h2.out.trans (Ext.box _ _)),by simp⟩
 rw [<- h3]; exact Blk.made _ _ _
theorem Y3i (w:World) (T:TypeId) (cs:Array Value) (T':TypeId) (cs':Array Value) (T'':TypeId) (cs'':Array Value):∃ W,((w.alloc (.cells cs T)).alloc (.cells cs' T')).alloc (.cells cs'' T'') = W /\ Blk W w.heap.size T cs /\ Blk W (w.heap.size + 1) T' cs' /\ Blk W (w.heap.size + 1 + 1) T'' cs'' /\ Hid (Ext w W) /\ W.heap.size = w.heap.size + 1 + 1 + 1:=by
 obtain ⟨X,rfl,h1,h2,h3,h4⟩:=Q6u w T cs T' cs';refine ⟨_,rfl,h1.ext (Ext.box _ _),h2.ext (Ext.box _ _),?_,Lib.hid (h3.out.trans (Ext.box _ _)),by simp⟩
 rw [<- h4]; exact Blk.made _ _ _
end Go.Tw
namespace Go.Flow
open Go.RowKit Go.Tw
abbrev rnd (l:Nat):Fence:=Fence.wide.inRound l
section
variable {P:Program} {ops:Array Oper} {pre:Nat -> List Nat}
theorem Q9k {l n:Nat} {o:Oper} {a:Act} {K:Act -> World -> Prop} {Q:Exit -> Act -> World -> Prop} {r:Result Next} (h:gives P (fun v w=>K (a.put o.dst v) w) r):o.uponIn (rnd l) n P a K Q r:=by
 cases r with
 | ok n' w =>
   cases n' <;> simp only [gives,Oper.uponIn] at h ⊢
   case value=>exact h
   case skip=>exact h
   case enter =>
    refine ⟨fun hd=>by simp [rnd,Fence.inRound,Fence.wide] at hd,CallsIn.inRound l (callsIn_wide.2 (h.mono fun e w ⟨u,he,hu⟩=>?_))⟩
    subst he; exact hu
   case row =>
    exact ⟨fun hd=>by simp [rnd,Fence.inRound,Fence.wide] at hd,fun c cs _=>let ⟨v,w',hr,hs⟩:=h c cs; ⟨v,w',hr,stepsIn_wide.2 hs⟩⟩
 | halt x w=>exact h.elim
theorem X7c (tail:List Nat) (kind:Nat -> Kind) {Rel:World -> World -> Prop} {D:Nat -> (Nat -> Value) -> World -> Prop} {E:Nat -> (Nat -> Value) -> World -> World -> Prop}
    {id:Nat} {Q:Exit -> Act -> World -> Prop} {a0:Act} {w:World} {l n:Nat} (hm:P.follows .mixedOrders = true) (hnd:∀ (j:Nat) (o:Oper),ops[j]? = some o -> ∀ c,o.op ≠ .defer c) (hok:Ok ops pre)
    (htail:∀ i (h:i < tail.length),tail[i] < ops.size) (hchain:∀ i k (hi:i < tail.length) (hk:k < tail.length),i < k -> tail[i] ∈ pre tail[k])
    (hlate:∀ j,j < ops.size -> j ∉ tail -> ∀ k ∈ pre j,k ∉ tail) (hkind:∀ j,j < ops.size -> (kind j = .last ↔ j ∈ tail)) (hearly:∀ j,j < ops.size -> kind j = .world -> ∀ s ∈ tail,j ∈ pre s)
    (hrefl:∀ w,Rel w w) (htrans:∀ a b c,Rel a b -> Rel b c -> Rel a c) (hmono:∀ k,k < ops.size -> ∀ v w w',Rel w w' -> D k v w -> D k v w')
    (hvc:∀ j o,ops[j]? = some o -> j ∉ tail -> ∀ v w1,Rel w.drew w1 -> (∀ k ∈ pre j,D k (mask pre k v) w1) -> vc P ops pre Rel D (fun _ _ _=>False) (fun _ _ _=>False) (kind j) o j (act (fun k=>decide (k < j)) v ops.toList 0 a0) v w1)
    (hvl:∀ c (hc:c < tail.length) o,ops[tail[c]]? = some o -> ∀ v w1,Rel w.drew w1 -> (∀ k ∈ pre tail[c],k ∉ tail -> D k (mask pre k v) w1) -> vc P ops pre Rel D (Tail pre tail E c) (E c) .last o tail[c] (act (fun k=>decide (k < tail[c])) v ops.toList 0 a0) v w1)
    (hpost:∀ v w1 w',Rel w.drew w1 -> (∀ k,k < ops.size -> k ∉ tail -> D k (mask pre k v) w1) -> Tail pre tail E tail.length v w1 w' -> Q .normal (act (fun _=>true) v ops.toList 0 a0) w') :
    (Code.region id ops true).wpIn (rnd l) n P Q a0 w:=by
 refine wpIn_region_any hm ?_;have hclosed:∀ (X:Nat -> Bool),(∀ j o,ops[j]? = some o -> X j = true -> ∀ e ∈ o.after,Region.binds .any e = true -> X e.on = true) ->
     ∀ j o,ops[j]? = some o -> (∀ e ∈ o.after,Region.binds .any e = true -> X e.on = true) -> ∀ i ∈ pre j,X i = true:=by
  intro X hX j
  induction j using Nat.strongRecOn with
  | _ j ih =>
    intro o ho hall i hi;obtain ⟨e,he,hb,hc⟩:=hok.pre j o ho i hi
    rcases hc with rfl | hc
    . exact hall e he hb
    . have hlt:=hok.edge j o ho e he hb
      have hj:j < ops.size:=(Array.getElem?_eq_some_iff.1 ho).1;have ho':ops[e.on]? = some ops[e.on]:=Array.getElem?_eq_getElem (by omega)
      exact ih e.on hlt _ ho' (hX e.on _ ho' (hall e he hb)) i hc
 have main:∀ (fuel:Nat) (listed:Array Bool) (a:Act) (wc:World),listed.size = ops.size -> left ops.size listed <= fuel ->
     (∀ j o,ops[j]? = some o -> listed.getD j false = true -> ∀ e ∈ o.after,Region.binds .any e = true -> listed.getD e.on false = true) ->
     (∃ v w1 c,Inv ops pre Rel D E tail [] a0 w.drew (fun k=>listed.getD k false) v w1 c a wc) -> wpAnyIn (rnd l) n P .any ops Q fuel listed a wc:=by
  intro fuel;have hdone:∀ (listed:Array Bool) (a:Act) (wc:World),listed.size = ops.size ->
      (∃ v w1 c,Inv ops pre Rel D E tail [] a0 w.drew (fun k=>listed.getD k false) v w1 c a wc) -> Region.ready .any ops listed = [] -> Q .normal a wc:=by
   rintro listed a wc hsz ⟨v,w1,c,hI⟩ hr;have hall:∀ j,j < ops.size -> listed.getD j false = true:=by
    intro j
    induction j using Nat.strongRecOn with
    | _ j ih =>
      intro hj;cases hx:listed.getD j false with
      | true=>rfl
      | false =>
        have hmem:j ∈ Region.ready .any ops listed:=mem_ready.2 ⟨by rw [Q2a (by omega)]; exact hx,ops[j],Array.getElem?_eq_getElem hj,fun e he hb =>
         have hlt:=hok.edge j _ (Array.getElem?_eq_getElem hj) e he hb
         ih e.on hlt (by omega)⟩
        rw [hr] at hmem;cases hmem
   have hact:a = act (fun _=>true) v ops.toList 0 a0:=by
    rw [hI.act];refine Q8u (by rw [Q1w,Q1w]) fun t=>Q4m _ _ _ _ t _ 0 _ _ rfl rfl fun k o ho _=>⟨?_,fun _=>rfl⟩
    rw [Nat.zero_add];exact hall k (by simpa using (List.getElem?_eq_some_iff.1 ho).1)
   rw [hact];refine hpost v w1 wc hI.rel (fun k hk hks=>hI.facts k (hall k hk) hks) ?_;have hl:=hI.last;have hc:c = tail.length:=by
    rcases Nat.lt_or_ge c tail.length with h | h
    . have h1:listed.getD tail[c] false = false:=hI.after c h (Nat.le_refl _)
      have h2:=hall _ (htail c h);rw [h2] at h1; cases h1
    . have:=hI.count; omega
   rw [hc] at hl;exact hl
  induction fuel with
  | zero =>
    intro listed a wc hsz hleft _ hI;have hr:Region.ready .any ops listed = []:=by
     refine List.eq_nil_iff_forall_not_mem.2 fun j hj=>?_;obtain ⟨hun,o,ho,_⟩:=mem_ready.1 hj;have hlt:j < ops.size:=(Array.getElem?_eq_some_iff.1 ho).1;have:=Q7b hsz hlt hun;omega
    exact ⟨hr,hdone listed a wc hsz hI hr⟩
  | succ fuel ih =>
    intro listed a wc hsz hleft hcl hI;refine ⟨hdone listed a wc hsz hI,fun j hj=>?_⟩;obtain ⟨v,w1,c,hI⟩:=hI;obtain ⟨hun,o,ho,hall⟩:=mem_ready.1 hj;have hlt:j < ops.size:=(Array.getElem?_eq_some_iff.1 ho).1;have hunf:listed.getD j false = false:=by rw [<- Q2a (by omega)]; exact hun
    have hpre:=hclosed (fun k=>listed.getD k false) hcl j o ho hall;have hol:ops.toList[j]? = some o:=by simpa using ho
    have hfree:∀ k,k < ops.size -> listed.getD k false = true -> j ∉ pre k:=by
     intro k hk hx hmem;have ho':ops[k]? = some ops[k]:=Array.getElem?_eq_getElem hk;have h2:listed.getD j false = true:=hclosed (fun k=>listed.getD k false) hcl k _ ho' (hcl k _ ho' hx) j hmem;rw [hunf] at h2; cases h2
    have hlater:∀ k o',j < k -> ops[k]? = some o' -> listed.getD k false = true -> o.apart ops o' = true:=by
     intro k o' hk ho' hx
     rcases hok.apart j k o o' hk ho ho' with h | h
     . exact h
     . exact absurd h (hfree k (Array.getElem?_eq_some_iff.1 ho').1 hx)
    have hlooks:∀ t ∈ o.looksAt ops,a.tmps[t]? = (act (fun k=>decide (k < j)) v ops.toList 0 a0).tmps[t]?:=by
     intro t ht;rw [hI.act];refine Q4m _ _ _ _ t _ 0 _ _ rfl rfl fun k o' ho' hd=>?_;rw [Nat.zero_add];refine ⟨?_,fun _=>rfl⟩;have ho'':ops[k]? = some o':=by simpa using ho'
     rcases Nat.lt_trichotomy k j with hk | hk | hk
     . simp only [hk,decide_true]
       rcases hok.apart k j o' o hk ho'' ho with h | h
       . exact absurd ht ((Oper.apart_spec h).1 t hd)
       . exact hpre k h
     . subst hk
       simp [hunf]
     . have hnlt:¬ k < j:=by omega
       simp only [hnlt,decide_false];cases hx:listed.getD k false with
       | false=>rfl
       | true=>exact absurd ht ((Oper.apart_spec (hlater k o' hk ho'' hx)).2.2 t hd)
    have hexec:execOp a.eval o = execOp (act (fun k=>decide (k < j)) v ops.toList 0 a0).eval o:=execOp_congr o (fun cs b=>hok.sel j o cs b ho) (eval_congr o hlooks);have hwant:Region.wanted o (yielded ops a.tmps) = Region.wanted o (yielded ops (act (fun k=>decide (k < j)) v ops.toList 0 a0).tmps):=Q6v o hlooks;have hput:∀ u,a.put o.dst u = act (fun k=>if k = j then true else listed.getD k false) (upd v j u) ops.toList 0 a0:=by
     intro u;rw [hI.act];refine X7l hol hunf fun k o' hk ho' hx=>?_;cases hd:o.dst with
     | none=>exact .inr rfl
     | some d=>exact .inl ((Oper.apart_spec (hlater k o' hk (by simpa using ho') hx)).2.1 d hd)
    have hX:(fun k=>(listed.setIfInBounds j true).getD k false) = fun k=>if k = j then true else listed.getD k false:=by
     funext k
     split
     . rename_i hk; subst hk; simp [hsz,hlt]
     . rename_i hk; exact getD_set_ne false (Ne.symm hk)
    have hwhich:j ∈ tail -> ∃ h:c < tail.length,tail[c] = j:=by
     intro hmem;obtain ⟨i,hi,he⟩:=List.getElem_of_mem hmem;have hci:c <= i:=by
      rcases Nat.lt_or_ge i c with h | h
      . have:=hI.before i hi h
        simp only [he] at this;rw [hunf] at this; cases this
      . exact h
     have:c = i:=by
      rcases Nat.lt_or_ge c i with h | h
      . have hx:=hpre tail[c] (by rw [<- he]; exact hchain c i (by omega) hi h)
        have h1:=hI.after c (by omega) (Nat.le_refl _)
        rw [hx] at h1; cases h1
      . omega
     subst this;exact ⟨hi,he⟩
    have hnext:∀ (u:Value) (w1' wc':World) (c':Nat),Rel w1 w1' -> (j ∉ tail -> D j (mask pre j (upd v j u)) w1') -> (j ∉ tail -> c' = c) -> (j ∈ tail -> c' = c + 1) ->
        Tail pre tail E c' (upd v j u) w1' wc' -> wpAnyIn (rnd l) n P .any ops Q fuel (listed.setIfInBounds j true) (a.put o.dst u) wc':=by
     intro u w1' wc' c' hrel hD hc1 hc2 hE;refine ih _ _ _ (by simpa using hsz) (by have:=Q7b hsz hlt hun; omega) (fun k ok hok' hx e he hb=>?_) ⟨upd v j u,w1',c',⟨by rw [hX]; exact hput u,htrans _ _ _ hI.rel hrel,fun k hx hks=>?_,?_,fun i hi hic=>?_,fun i hi hic=>?_,hE,fun _ h=>(nomatch h),fun _ h=>(nomatch h)⟩⟩
     . by_cases hkj:k = j
       . subst hkj
         rw [ho] at hok';cases hok';exact getD_set_true (hall e he hb)
       . rw [getD_set_ne false (Ne.symm hkj)] at hx
         exact getD_set_true (hcl k ok hok' hx e he hb)
     . rw [congrFun hX k] at hx
       by_cases hkj:k = j
       . subst hkj; exact hD hks
       . rw [if_neg hkj] at hx
         have hksz:k < ops.size:=by
          rcases Nat.lt_or_ge k ops.size with h | h
          . exact h
          . rw [<- hsz] at h; simp [Array.getElem?_eq_none h] at hx
         rw [Q7g (Ne.symm hkj) (hfree k hksz hx)];exact hmono k hksz _ _ _ hrel (hI.facts k hx hks)
     . by_cases hjt:j ∈ tail
       . obtain ⟨h,_⟩:=hwhich hjt
         rw [hc2 hjt]; omega
       . rw [hc1 hjt]; exact hI.count
     . rw [congrFun hX]
       by_cases hij:tail[i] = j
       . rw [if_pos hij]
       . rw [if_neg hij]
         by_cases hjt:j ∈ tail
         . obtain ⟨h,he⟩:=hwhich hjt
           rw [hc2 hjt] at hic;have:i ≠ c:=fun e=>hij (by subst e; exact he)
           exact hI.before i hi (by omega)
         . rw [hc1 hjt] at hic; exact hI.before i hi hic
     . rw [congrFun hX]
       by_cases hjt:j ∈ tail
       . obtain ⟨h,he⟩:=hwhich hjt
         rw [hc2 hjt] at hic;rw [if_neg (fun e=>by
          have h1:=hchain c i h hi (by omega)
          rw [e,he] at h1;obtain ⟨e',he',hb',hcc⟩:=hok.pre j o ho j h1;have hl:=hok.edge j o ho e' he' hb';have h2:listed.getD j false = true:=hpre j h1;rw [hunf] at h2; cases h2)]
         exact hI.after i hi (by omega)
       . rw [hc1 hjt] at hic
         rw [if_neg (fun e=>hjt (by rw [<- e]; exact List.getElem_mem hi))]
         exact hI.after i hi hic
    have htailkeep:j ∉ tail -> ∀ u,Tail pre tail E c (upd v j u) w1 wc:=by
     intro hjt u;have hl:=hI.last;cases c with
     | zero=>exact hl
     | succ c =>
       have hct:c < tail.length:=by have:=hI.count; omega
       change E c (mask pre (tail.getD c 0) v) w1 wc at hl;show E c (mask pre (tail.getD c 0) (upd v j u)) w1 wc;have e:tail.getD c 0 = tail[c]:=by simp [hct]
       rw [e] at hl ⊢;rw [Q7g (fun h=>hjt (by rw [h]; exact List.getElem_mem hct)) (hfree _ (htail c hct) (hI.before c hct (by omega)))]
       exact hl
    unfold wpOpIn;simp only [ho];rw [hwant]
    by_cases hjt:j ∈ tail
    . obtain ⟨hc,he⟩:=hwhich hjt
      have hv:=hvl c hc o (by rw [he]; exact ho) v w1 hI.rel (fun k hk hkt=>hI.facts k (hpre k (by rw [<- he]; exact hk)) hkt) wc hI.last
      rw [he] at hv;have hT:∀ u w',E c (mask pre j (upd v j u)) w1 w' -> Tail pre tail E (c + 1) (upd v j u) w1 w':=by
       intro u w' h;show E c (mask pre (tail.getD c 0) (upd v j u)) w1 w';have e:tail.getD c 0 = j:=by simp [hc,he]
       rw [e]; exact h
      rcases hv with ⟨hwt,hg⟩ | ⟨hwf,hD⟩
      . rw [if_pos hwt]
        refine ⟨fun _ _=>trivial,?_⟩;rw [show (rnd l).round = some l from rfl,Oper.semAt_some l _ _ (hnd j o ho)]
        rw [hexec];exact Q9k (Q3k (fun u w' h=>hnext u w1 w' (c + 1) (hrefl _) (fun h=>absurd hjt h) (fun h=>absurd hjt h) (fun _=>rfl) (hT u w' h)) hg)
      . rw [if_neg (by rw [hwf]; simp)]
        refine ⟨fun _ _=>trivial,?_⟩;exact hnext undef w1 wc (c + 1) (hrefl _) (fun h=>absurd hjt h) (fun h=>absurd hjt h) (fun _=>rfl) (hT _ _ hD)
    . have hfacts:∀ k ∈ pre j,D k (mask pre k v) w1:=fun k hk=>hI.facts k (hpre k hk) (hlate j hlt hjt k hk)
      have hv:=hvc j o ho hjt v w1 hI.rel hfacts;cases hk:kind j with
      | plain =>
        rw [hk] at hv
        rcases hv with ⟨hwt,u,hrun,hD⟩ | ⟨hwf,hD⟩
        . rw [if_pos hwt]
          refine ⟨fun _ _=>trivial,?_⟩;rw [show (rnd l).round = some l from rfl,Oper.semAt_some l _ _ (hnd j o ho)]
          rw [hexec,hrun wc];exact hnext u w1 wc c (hrefl _) (fun _=>hD) (fun _=>rfl) (fun h=>absurd h hjt) (htailkeep hjt u)
        . rw [if_neg (by rw [hwf]; simp)]
          refine ⟨fun _ _=>trivial,?_⟩;exact hnext undef w1 wc c (hrefl _) (fun _=>hD) (fun _=>rfl) (fun h=>absurd h hjt) (htailkeep hjt undef)
      | world =>
        have hc0:c = 0:=by
         rcases Nat.eq_zero_or_pos c with h | h
         . exact h
         . have h0:0 < tail.length:=by have:=hI.count; omega
           have hx:=hI.before 0 h0 h;exact absurd (hearly j hlt hk tail[0] (List.getElem_mem h0)) (hfree _ (htail 0 h0) hx)
        subst hc0;have hwc:wc = w1:=hI.last;subst hwc;rw [hk] at hv
        rcases hv with ⟨hwt,hg⟩ | ⟨hwf,hD⟩
        . rw [if_pos hwt]
          refine ⟨fun _ _=>trivial,?_⟩;rw [show (rnd l).round = some l from rfl,Oper.semAt_some l _ _ (hnd j o ho)]
          rw [hexec];exact Q9k (Q3k (fun u w' h=>hnext u w' w' 0 h.1 (fun _=>h.2) (fun _=>rfl) (fun h=>absurd h hjt) rfl) hg)
        . rw [if_neg (by rw [hwf]; simp)]
          refine ⟨fun _ _=>trivial,?_⟩;exact hnext undef wc wc 0 (hrefl _) (fun _=>hD) (fun _=>rfl) (fun h=>absurd h hjt) rfl
      | last=>exact absurd ((hkind j hlt).1 hk) hjt
 refine main ops.size _ a0 _ (by simp) ?_ (fun j o _ hx=>?_) ⟨fun _=>undef,w.drew,0,?_,hrefl _,fun k hx=>?_,Nat.zero_le _,fun i _ h=>absurd h (Nat.not_lt_zero _),fun i _ _=>?_,rfl,fun _ h=>(nomatch h),fun _ h=>(nomatch h)⟩
 . exact Nat.le_trans (List.countP_le_length) (by simp)
 . have:=Q1t ops.size j
   rw [this] at hx; cases hx
 . refine (Q8u (by rw [Q1w]) fun t=>?_)
   have:∀ (l:List Oper) (i:Nat) (a:Act),act (fun k=>(Array.replicate ops.size false).getD k false) (fun _=>undef) l i a = a:=by
    intro l; induction l with
    | nil=>intro i a; rfl
    | cons o l ih=>intro i a; rw [act,ih,Q1t]; rfl
   rw [this]
 . have:=Q1t ops.size k
   rw [this] at hx; cases hx
 . exact Q1t ops.size _
end
def Y5v (l:List Oper):Bool:=l.all fun o=>match o.op with | .defer _=>false | _=>true
theorem Z0f {l:List Oper} (h:Y5v l = true):∀ (j:Nat) (o:Oper),l.toArray[j]? = some o -> ∀ c,o.op ≠ .defer c:=by
 intro j o ho c hc;have hm:o ∈ l:=List.mem_of_getElem? (by simpa using ho)
 have:=List.all_eq_true.1 h o hm;simp [hc] at this
section
variable {P:Program} {id:Nat} {Q:Exit -> Act -> World -> Prop} {a0:Act} {w:World} {ops:List Oper}
theorem J5r {l n:Nat} (kl:List Kind) (jl:List Nat) (pl:List (List Nat)) (tail:List Nat) (Dl:List Spec) (El:List ((Nat -> Value) -> World -> World -> Prop))
    (hm:P.follows .mixedOrders = true) (hnd:Y5v ops = true) (hjl:jl = List.range' 0 ops.length) (hok:okL ops pl kl tail El.length = true)
    (hvc:X7k P ops.toArray (lookup pl []) tail w.drew (fun k=>(lookup Dl .none k).D) El (fun _ w1 w=>w = w1) ops kl jl (fun _=>a0))
    (hpost:∀ v w1,Ext w.drew w1 -> All (lookup pl []) (fun k=>(lookup Dl .none k).D) v w1 tail jl (∀ w',endOf (lookup pl []) v w1 w' tail El -> Q .normal (acts v ops jl a0) w')) :
    (Code.region id ops.toArray true).wpIn (rnd l) n P Q a0 w:=by
 subst hjl;simp only [X8o] at hpost;simp only [okL,Bool.and_eq_true,List.all_eq_true,List.mem_range,beq_iff_eq,Bool.or_eq_true,Bool.not_eq_true',List.contains_eq_mem,decide_eq_true_eq,decide_eq_false_iff_not] at hok;obtain ⟨⟨⟨⟨⟨⟨hok,hlen⟩,htail⟩,hn⟩,hchain⟩,hlate⟩,hearly⟩:=hok;have hmem:∀ j,j ∈ tail ↔ j < ops.length /\ isLast (lookup kl .plain j) = true:=by intro j; rw [htail,List.mem_filter,List.mem_range]
 have hk:∀ j,isLast (lookup kl .plain j) = true ↔ lookup kl .plain j = .last:=by intro j; cases lookup kl .plain j <;> simp [isLast]
 have hlk:lasts kl 0 = tail:=by
  rw [X2h,htail,hlen,List.range_eq_range'];rfl
 have hEl:∀ n,n < (lasts kl 0).length -> El[n]? = some ((fun c=>(El[c]?).getD fun _ _ _=>True) (0 + n)):=by
  intro n hn';rw [hlk,<- hn] at hn';simp [hn']
 have hend:∀ v w1 w',Tail (lookup pl []) tail (fun c=>(El[c]?).getD fun _ _ _=>True) tail.length v w1 w' -> endOf (lookup pl []) v w1 w' tail El:=by
  intro v w1 w' h;have gen:∀ (tl:List Nat) (el:List ((Nat -> Value) -> World -> World -> Prop)),el.length = tl.length -> (tl = [] -> w' = w1) -> (∀ (hne:tl ≠ []),((el[tl.length - 1]?).getD fun _ _ _=>True) (mask (lookup pl []) (tl.getD (tl.length - 1) 0) v) w1 w') -> endOf (lookup pl []) v w1 w' tl el:=by
   intro tl
   induction tl with
   | nil=>intro el _ h0 _; cases el <;> exact h0 rfl
   | cons j tl ih =>
     intro el hl _ h1;cases el with
     | nil=>simp at hl
     | cons E el =>
       cases tl with
       | nil=>cases el with
         | nil=>simpa [endOf] using h1 (by simp)
         | cons _ _=>simp at hl
       | cons j' tl=>cases el with
         | nil=>simp at hl
         | cons E' el =>
           show endOf _ v w1 w' (j' :: tl) (E' :: el);exact ih _ (by simpa using hl) (fun h=>by simp at h) (fun _=>by simpa using h1 (by simp))
  refine gen tail El hn.symm.symm (fun h0=>?_) (fun hne=>?_)
  . rw [h0] at h; exact h
  . obtain ⟨m,hm⟩:∃ m,tail.length = m + 1:=⟨tail.length - 1,by have:=List.length_pos_iff.2 hne; omega⟩
    rw [hm] at h;rw [hm,Nat.add_sub_cancel];exact h
 refine X7c tail (lookup kl .plain) (Rel:=Ext) (D:=fun k=>(lookup Dl .none k).D) (E:=fun c=>(El[c]?).getD fun _ _ _=>True) hm (Z0f hnd) (J3v hok)
  (fun i hi=>by simpa using ((hmem _).1 (List.getElem_mem hi)).1) (fun i k hi hk hik=>by have:=hchain k hk i hik; simpa [hi,hk] using this)
  (fun j hjl hjs k hk'=>?_) (fun j hjl=>?_) (fun j hjl hjw s hs=>?_)
  Ext.refl (fun _ _ _=>Ext.trans) (fun k _ v w w' hx hd=>(lookup Dl .none k).mono v w w' hx hd) (fun j o ho hjs v w1 hx hf=>?_) (fun c hc o ho v w1 hx hf=>?_) (fun v w1 w' hx hf hE=>?_)
 . rcases hlate j (by simpa using hjl) with h | h
   . exact absurd ((hmem j).2 ⟨by simpa using hjl,h⟩) hjs
   . exact h k hk'
 . rw [hmem,hk]; simp at hjl; simp [hjl]
 . rcases hearly j (by simpa using hjl) with h | h
   . rw [hjw] at h; simp [X1k] at h
   . exact h s hs
 . have hjl:j < ops.length:=by simpa using (Array.getElem?_eq_some_iff.1 ho).1
   have:=Y5k ops kl El _ 0 _ hlen hvc j o (by simpa using ho) (fun h=>hjs ((hmem j).2 ⟨hjl,(hk j).2 h⟩)) v w1 hx (by simpa using hf)
   rw [Nat.zero_add] at this;have e:=Q3c v ops 0 j a0;rw [Nat.zero_add] at e
   simpa [e] using this
 . have:=Q8i (fun c=>(El[c]?).getD fun _ _ _=>True) ops kl El 0 _ 0 hlen (by rw [hlk]; rfl) hEl hvc c (by rw [hlk]; exact hc) tail[c] o (by simp [hc]) (by simpa using ho) v w1 hx (by simpa using hf)
   rw [Nat.zero_add,Nat.zero_add] at this;have e:=Q3c v ops 0 tail[c] a0;rw [Nat.zero_add] at e
   simpa [e] using this
 . exact (hpost v w1 hx).out (fun k hk hks=>hf k (by simpa using hk) hks) w' (hend v w1 w' hE)
theorem J2t {l n:Nat} (kl:List Kind) (jl:List Nat) (pl:List (List Nat)) (Dl:List Spec)
    (hm:P.follows .mixedOrders = true) (hnd:Y5v ops = true) (hjl:jl = List.range' 0 ops.length) (hok:okL ops pl kl [] 0 = true)
    (hvc:X7k P ops.toArray (lookup pl []) [] w.drew (fun k=>(lookup Dl .none k).D) [] (fun _ w1 w=>w = w1) ops kl jl (fun _=>a0))
    (hpost:∀ v w1,Ext w.drew w1 -> All (lookup pl []) (fun k=>(lookup Dl .none k).D) v w1 [] jl (Q .normal (acts v ops jl a0) w1)) :
    (Code.region id ops.toArray true).wpIn (rnd l) n P Q a0 w :=
 J5r kl jl pl [] Dl [] hm hnd hjl hok hvc (fun v w1 hx=>by
  have:=hpost v w1 hx;have gen:∀ (jl:List Nat) (G G':Prop),(G -> G') -> All (lookup pl []) (fun k=>(lookup Dl .none k).D) v w1 [] jl G -> All (lookup pl []) (fun k=>(lookup Dl .none k).D) v w1 [] jl G':=by
   intro jl
   induction jl with
   | nil=>intro G G' h hG; exact h hG
   | cons j jl ih =>
     intro G G' h hG;simp only [All,List.contains_nil,Bool.false_eq_true,if_false] at hG ⊢;exact fun hd=>ih G G' h (hG hd)
  exact gen _ _ _ (fun h w' (hE:w' = w1)=>hE ▸ h) this)
end
end Go.Flow
