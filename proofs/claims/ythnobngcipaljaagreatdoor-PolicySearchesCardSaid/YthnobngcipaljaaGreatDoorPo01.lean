/- What values read as: slices as lists, structs as structures; all of it is kept where memory only grows. Trees as data, and what the values of the Go types read as. What the functions of chapter 7 come to, in plain lists and numbers: no program is in sight here. Seasons and policies as data, and what the values of the Go types read as. What the arguments of a law of chapter 5 read as: seasons, policies, lists of numbers, short lists of truth values. -/
import Derived.WalkKit
import Derived.WalkSpells
import Derived.WalkLawsBesides
import Derived.Lib.Hide
import Derived.Below
import Derived.Carry
import Derived.Test.YthnobngcipaljaaGreatDoorProg
import Derived.Deep.Slices
import Derived.Deep.Strs
import Derived.ProofKit
import Derived.SizedLaws
set_option maxRecDepth 1000000
set_option maxHeartbeats 64000000
set_option linter.unusedVariables false
set_option linter.unusedSimpArgs false
set_option linter.constructorNameAsVariable false
namespace Go.Tw
open Go.RowKit
theorem gA {α:Type} (l:List α) (i:Nat):l.toArray[i]? = l[i]?:=by simp
theorem gB {α:Type} (a:α) (l:List α):(a :: l)[0]? = some a:=rfl
theorem gC {α:Type} (a:α) (l:List α) (i:Nat):(a :: l)[i + 1]? = l[i]?:=by simp
def Ext (w w':World):Prop:=Below w.heap.size w w'
theorem Ext.refl (w:World):Ext w w:=Below.refl _ _
theorem Ext.trans {a b c:World} (h:Ext a b) (k:Ext b c):Ext a c:=Below.trans h (Below.mono k h.size)
theorem Ext.drew {a b:World} (h:Ext a b):Ext a b.drew:=Below.drew h
theorem Ext.alloc {a b:World} (h:Ext a b) (o:Obj):Ext a (b.alloc o):=Below.alloc h h.size o
theorem Ext.below {a b:World} (h:Ext a b) {n:Nat} (hn:n <= a.heap.size):Below n a b:=Below.mono h hn
theorem Ext.cell {a b:World} (h:Ext a b) {p:Addr} {v:Value} (hc:a.cell? p = some v):b.cell? p = some v :=
 (Below.cell h (World.block_lt_of_cell? a p hc)).trans hc
theorem Ext.size {a b:World} (h:Ext a b):a.heap.size <= b.heap.size:=Below.size h
def ix (l:List Int) (k:Nat):Int:=l.getD k 0
theorem Q4w {l:List Int} {k:Nat} (h:k < l.length):ix l k = l[k]:=by simp [ix,h]
def Row (w:World) (v:Value) (n sz:Nat) (c:Nat -> Value):Prop :=
 ∃ A cap,v = .slice A n cap /\ n <= 17592186043904 /\ n <= cap /\ ∀ j,j < n * sz -> ∃ b off,A = some ⟨b,off,none⟩ /\ w.cell? ⟨b,off + j,none⟩ = some (c j)
theorem Row.ext {w w':World} {v:Value} {n sz:Nat} {c:Nat -> Value} (h:Row w v n sz c) (hx:Ext w w'):Row w' v n sz c:=by
 obtain ⟨A,cap,hv,hn,hcap,hc⟩:=h;exact ⟨A,cap,hv,hn,hcap,fun j hj=>let ⟨b,off,hA,h⟩:=hc j hj; ⟨b,off,hA,hx.cell h⟩⟩
def Rows {α:Type} (sz:Nat) (R:World -> (Nat -> Value) -> α -> Prop) (w:World) (v:Value) (l:List α):Prop :=
 ∃ c,Row w v l.length sz c /\ ∀ j (h:j < l.length),R w (fun i=>c (j * sz + i)) l[j]
theorem Rows.ext {α:Type} {sz:Nat} {R:World -> (Nat -> Value) -> α -> Prop} (hR:∀ w w' c x,Ext w w' -> R w c x -> R w' c x) {w w':World} {v:Value} {l:List α}
    (h:Rows sz R w v l) (hx:Ext w w'):Rows sz R w' v l:=by
 obtain ⟨c,h1,h2⟩:=h;exact ⟨c,h1.ext hx,fun j hj=>hR _ _ _ _ hx (h2 j hj)⟩
theorem Rows.nil {α:Type} (sz:Nat) (R:World -> (Nat -> Value) -> α -> Prop) (w:World):Rows sz R w (.slice none 0 0) [] :=
 ⟨fun _=>undef,⟨none,0,rfl,by simp,by simp,fun j hj=>by simp at hj⟩,fun j hj=>by simp at hj⟩
def Q0d:World -> Value -> List Int -> Prop:=Rows 1 fun _ c x=>c 0 = .int .i64 x
def Q0x:World -> Value -> List Bool -> Prop:=Rows 1 fun _ c x=>c 0 = .bool x
def Z4q:World -> Value -> List ByteArray -> Prop:=Rows 1 fun _ c x=>c 0 = .string x
def Q3o:World -> Value -> List (List Int) -> Prop:=Rows 1 fun w c x=>Q0d w (c 0) x
theorem Q0d.ext {w w':World} {v:Value} {l:List Int} (h:Q0d w v l) (hx:Ext w w'):Q0d w' v l:=Rows.ext (fun _ _ _ _ _ h=>h) h hx
theorem Q0x.ext {w w':World} {v:Value} {l:List Bool} (h:Q0x w v l) (hx:Ext w w'):Q0x w' v l:=Rows.ext (fun _ _ _ _ _ h=>h) h hx
theorem Z4q.ext {w w':World} {v:Value} {l:List ByteArray} (h:Z4q w v l) (hx:Ext w w'):Z4q w' v l:=Rows.ext (fun _ _ _ _ _ h=>h) h hx
theorem Q3o.ext {w w':World} {v:Value} {l:List (List Int)} (h:Q3o w v l) (hx:Ext w w'):Q3o w' v l:=Rows.ext (fun _ _ _ _ hx h=>h.ext hx) h hx
theorem Q0d.opened {w:World} {v:Value} {l:List Int} (h:Q0d w v l) :
    ∃ A cap,v = .slice A l.length cap /\ l.length <= 17592186043904 /\ l.length <= cap /\ ∀ k,k < l.length -> ∃ b off,A = some ⟨b,off,none⟩ /\ w.cell? ⟨b,off + k,none⟩ = some (.int .i64 (ix l k)):=by
 obtain ⟨c,⟨A,cap,hv,hn,hcap,hc⟩,h2⟩:=h;refine ⟨A,cap,hv,hn,hcap,fun k hk=>?_⟩;obtain ⟨b,off,hA,h⟩:=hc k (by omega)
 refine ⟨b,off,hA,?_⟩;have:=h2 k hk;simp only [Nat.mul_one,Nat.add_zero] at this;rw [h,this,Q4w hk]
end Go.Tw
namespace Go.Tw
open Go.RowKit
structure Basic where
 name:ByteArray
 chance:Int
structure X9q where
 name:ByteArray
 chance:Int
 members:List Int
structure Gate where
 kind:ByteArray
 need:Int
 inputs:List Int
structure Tree where
 basics:List Basic
 causes:List X9q
 gates:List Gate
instance:Inhabited Basic:=⟨⟨⟨#[]⟩,0⟩⟩
instance:Inhabited X9q:=⟨⟨⟨#[]⟩,0,[]⟩⟩
instance:Inhabited Gate:=⟨⟨⟨#[]⟩,0,[]⟩⟩
def Short (s:ByteArray):Prop:=s.size <= 140737488355328
def Y6t (_:World) (c:Nat -> Value) (x:Basic):Prop:=c 0 = .string x.name /\ c 1 = .int .i64 x.chance /\ Short x.name
def Y4r (w:World) (c:Nat -> Value) (x:X9q):Prop:=c 0 = .string x.name /\ c 1 = .int .i64 x.chance /\ Q0d w (c 2) x.members /\ Short x.name
def Z3z (w:World) (c:Nat -> Value) (x:Gate):Prop:=c 0 = .string x.kind /\ c 1 = .int .i64 x.need /\ Q0d w (c 2) x.inputs /\ Short x.kind
theorem Y6t.ext (w w':World) (c:Nat -> Value) (x:Basic) (_:Ext w w') (h:Y6t w c x):Y6t w' c x:=h
theorem Y4r.ext (w w':World) (c:Nat -> Value) (x:X9q) (hx:Ext w w') (h:Y4r w c x):Y4r w' c x:=⟨h.1,h.2.1,h.2.2.1.ext hx,h.2.2.2⟩
theorem Z3z.ext (w w':World) (c:Nat -> Value) (x:Gate) (hx:Ext w w') (h:Z3z w c x):Z3z w' c x:=⟨h.1,h.2.1,h.2.2.1.ext hx,h.2.2.2⟩
def Q9r:World -> Value -> List Basic -> Prop:=Rows 2 Y6t
def Q9k:World -> Value -> List X9q -> Prop:=Rows 3 Y4r
def X3x:World -> Value -> List Gate -> Prop:=Rows 3 Z3z
theorem Q9r.ext {w w':World} {v:Value} {l:List Basic} (h:Q9r w v l) (hx:Ext w w'):Q9r w' v l:=Rows.ext Y6t.ext h hx
theorem Q9k.ext {w w':World} {v:Value} {l:List X9q} (h:Q9k w v l) (hx:Ext w w'):Q9k w' v l:=Rows.ext Y4r.ext h hx
theorem X3x.ext {w w':World} {v:Value} {l:List Gate} (h:X3x w v l) (hx:Ext w w'):X3x w' v l:=Rows.ext Z3z.ext h hx
structure Y3b (w:World) (a b c:Value) (t:Tree):Prop where
 basics:Q9r w a t.basics
 causes:Q9k w b t.causes
 gates:X3x w c t.gates
theorem Y3b.ext {w w':World} {a b c:Value} {t:Tree} (h:Y3b w a b c t) (hx:Ext w w'):Y3b w' a b c t:=⟨h.basics.ext hx,h.causes.ext hx,h.gates.ext hx⟩
def IsTree (w:World) (v:Value) (t:Tree):Prop:=∃ a b c,v = .agg #[a,b,c] /\ Y3b w a b c t
theorem IsTree.ext {w w':World} {v:Value} {t:Tree} (h:IsTree w v t) (hx:Ext w w'):IsTree w' v t:=let ⟨a,b,c,hv,h3⟩:=h; ⟨a,b,c,hv,h3.ext hx⟩
def bName (l:List Basic) (k:Nat):ByteArray:=(l.getD k default).name
def Y7m (l:List Basic) (k:Nat):Int:=(l.getD k default).chance
def cName (l:List X9q) (k:Nat):ByteArray:=(l.getD k default).name
def Y8b (l:List X9q) (k:Nat):Int:=(l.getD k default).chance
def Q7m (l:List X9q) (k:Nat):List Int:=(l.getD k default).members
def Y6x (l:List Gate) (k:Nat):ByteArray:=(l.getD k default).kind
def Z4z (l:List Gate) (k:Nat):Int:=(l.getD k default).need
def Q6p (l:List Gate) (k:Nat):List Int:=(l.getD k default).inputs
theorem Q1f {k:IntKind} {a b:Int} (h:a = b):Ending.returned (.int k a) = .returned (.int k b):=by rw [h]
theorem Q0s {a b:Bool} (h:a = b):Ending.returned (.bool a) = .returned (.bool b):=by rw [h]
def has (l:List Int) (x:Int):Bool:=l.contains x
theorem Y9k (y:Int) (l:List Int) (x:Int):has (y :: l) x = (y == x || has l x):=by
 unfold has; rw [List.contains_cons,Bool.beq_comm]
theorem J0i {l:List Int} {x:Int}:has l x = true ↔ x ∈ l:=by simp [has]
theorem Q0v {α:Type} {l:List α} {k:Nat} (d:α) (h:k < l.length):l.getD k d = l[k]:=by simp [h]
theorem Q9r.opened {w:World} {v:Value} {l:List Basic} (h:Q9r w v l) :
    ∃ A cap,v = .slice A l.length cap /\ l.length <= 17592186043904 /\ l.length <= cap /\ ∀ k,k < l.length -> ∃ b off,A = some ⟨b,off,none⟩ /\ b < w.heap.size /\
     w.cell? ⟨b,off + k * 2,none⟩ = some (.string (bName l k)) /\ w.cell? ⟨b,off + k * 2 + 1,none⟩ = some (.int .i64 (Y7m l k)) /\ Short (bName l k):=by
 obtain ⟨c,⟨A,cap,hv,hn,hcap,hc⟩,h2⟩:=h;refine ⟨A,cap,hv,hn,hcap,fun k hk=>?_⟩;obtain ⟨b,off,hA,h0⟩:=hc (k * 2) (by omega)
 obtain ⟨b',off',hA',h1⟩:=hc (k * 2 + 1) (by omega)
 rw [hA] at hA'; cases hA';obtain ⟨e0,e1,e2⟩:=h2 k hk;simp only [Nat.add_zero] at e0 e1;refine ⟨b,off,hA,World.block_lt_of_cell? w _ h0,?_,?_,?_⟩
 . rw [h0,e0,bName,Q0v _ hk]
 . rw [Nat.add_assoc,h1,e1,Y7m,Q0v _ hk]
 . rw [bName,Q0v _ hk]; exact e2
theorem Q9k.opened {w:World} {v:Value} {l:List X9q} (h:Q9k w v l) :
    ∃ A cap,v = .slice A l.length cap /\ l.length <= 17592186043904 /\ l.length <= cap /\ ∀ k,k < l.length -> ∃ b off m,A = some ⟨b,off,none⟩ /\ b < w.heap.size /\
     w.cell? ⟨b,off + k * 3,none⟩ = some (.string (cName l k)) /\ w.cell? ⟨b,off + k * 3 + 1,none⟩ = some (.int .i64 (Y8b l k)) /\
     w.cell? ⟨b,off + k * 3 + 2,none⟩ = some m /\ Q0d w m (Q7m l k) /\ Short (cName l k):=by
 obtain ⟨c,⟨A,cap,hv,hn,hcap,hc⟩,h2⟩:=h;refine ⟨A,cap,hv,hn,hcap,fun k hk=>?_⟩;obtain ⟨b,off,hA,h0⟩:=hc (k * 3) (by omega)
 obtain ⟨b',off',hA',h1⟩:=hc (k * 3 + 1) (by omega)
 rw [hA] at hA'; cases hA';obtain ⟨b',off',hA',h3⟩:=hc (k * 3 + 2) (by omega)
 rw [hA] at hA'; cases hA';obtain ⟨e0,e1,e2,e3⟩:=h2 k hk;simp only [Nat.add_zero] at e0 e1;refine ⟨b,off,c (k * 3 + 2),hA,World.block_lt_of_cell? w _ h0,?_,?_,?_,?_,?_⟩
 . rw [h0,e0,cName,Q0v _ hk]
 . rw [Nat.add_assoc,h1,e1,Y8b,Q0v _ hk]
 . rw [Nat.add_assoc,h3]
 . rw [Q7m,Q0v _ hk]; exact e2
 . rw [cName,Q0v _ hk]; exact e3
theorem X3x.opened {w:World} {v:Value} {l:List Gate} (h:X3x w v l) :
    ∃ A cap,v = .slice A l.length cap /\ l.length <= 17592186043904 /\ l.length <= cap /\ ∀ k,k < l.length -> ∃ b off m,A = some ⟨b,off,none⟩ /\ b < w.heap.size /\
     w.cell? ⟨b,off + k * 3,none⟩ = some (.string (Y6x l k)) /\ w.cell? ⟨b,off + k * 3 + 1,none⟩ = some (.int .i64 (Z4z l k)) /\
     w.cell? ⟨b,off + k * 3 + 2,none⟩ = some m /\ Q0d w m (Q6p l k) /\ Short (Y6x l k):=by
 obtain ⟨c,⟨A,cap,hv,hn,hcap,hc⟩,h2⟩:=h;refine ⟨A,cap,hv,hn,hcap,fun k hk=>?_⟩;obtain ⟨b,off,hA,h0⟩:=hc (k * 3) (by omega)
 obtain ⟨b',off',hA',h1⟩:=hc (k * 3 + 1) (by omega)
 rw [hA] at hA'; cases hA';obtain ⟨b',off',hA',h3⟩:=hc (k * 3 + 2) (by omega)
 rw [hA] at hA'; cases hA';obtain ⟨e0,e1,e2,e3⟩:=h2 k hk;simp only [Nat.add_zero] at e0 e1;refine ⟨b,off,c (k * 3 + 2),hA,World.block_lt_of_cell? w _ h0,?_,?_,?_,?_,?_⟩
 . rw [h0,e0,Y6x,Q0v _ hk]
 . rw [Nat.add_assoc,h1,e1,Z4z,Q0v _ hk]
 . rw [Nat.add_assoc,h3]
 . rw [Q6p,Q0v _ hk]; exact e2
 . rw [Y6x,Q0v _ hk]; exact e3
def bx (l:List Bool) (k:Nat):Bool:=l.getD k false
theorem Q0x.opened {w:World} {v:Value} {l:List Bool} (h:Q0x w v l) :
    ∃ A cap,v = .slice A l.length cap /\ l.length <= 17592186043904 /\ l.length <= cap /\ ∀ k,k < l.length -> ∃ b off,A = some ⟨b,off,none⟩ /\ b < w.heap.size /\ w.cell? ⟨b,off + k,none⟩ = some (.bool (bx l k)):=by
 obtain ⟨c,⟨A,cap,hv,hn,hcap,hc⟩,h2⟩:=h;refine ⟨A,cap,hv,hn,hcap,fun k hk=>?_⟩;obtain ⟨b,off,hA,h⟩:=hc k (by omega)
 refine ⟨b,off,hA,World.block_lt_of_cell? w _ h,?_⟩;have:=h2 k hk;simp only [Nat.mul_one,Nat.add_zero] at this;rw [h,this,bx,Q0v _ hk]
theorem str_eq {a b:ByteArray} (h:a = b):(a == b) = true:=by subst h; obtain ⟨⟨d⟩⟩:=a; show (Array.mk d == Array.mk d) = true; simp
theorem X2j {a b:ByteArray} (h:¬ a = b):(a == b) = false:=by
 obtain ⟨a⟩:=a; obtain ⟨b⟩:=b;show (a == b) = false;rw [beq_eq_false_iff_ne];exact fun e=>h (by rw [e])
theorem Ext.cells {a b:World} (h:Ext a b):∀ k o,k < a.heap.size -> b.cell? ⟨k,o,none⟩ = a.cell? ⟨k,o,none⟩:=fun _ _ hk=>Below.cell (p:=⟨_,_,none⟩) h hk
end Go.Tw
namespace Go.Tw
def Q0j:List Int -> Int
 | []=>0
 | x :: l=>if x = 0 then Q0j l else x
def Q0f (x a b:Int):Int:=if x < a ∨ b < x then 3 else 0
def Z6j:List Int -> Bool
 | x :: y :: l=>decide (x < y) && Z6j (y :: l)
 | _=>true
def J4f (l:List Int) (n:Int):Bool:=l.any fun x=>decide (x < 0 ∨ n <= x)
def Y9v (l:List Int) (n:Int):Int:=if J4f l n then 10 else if Z6j l then 0 else 11
def X3o (l:List Int) (n:Int):Int:=if l = [] then 12 else Y9v l n
def Q1p (c:UInt8):Bool:=(decide (97 <= c) && decide (c <= 122)) || (decide (65 <= c) && decide (c <= 90))
def Q3n (c:UInt8):Bool:=c == 95 || (decide (48 <= c) && decide (c <= 57))
def nameB (s:ByteArray):Bool:=match s.data.toList with
 | []=>false
 | c :: l=>Q1p c && l.all (fun c=>Q1p c || Q3n c) && decide (l.length < 24)
def J1b (s:ByteArray):Int:=if nameB s then 0 else 8
def J4i:ByteArray:=⟨#[97,110,100]⟩
def sOr:ByteArray:=⟨#[111,114]⟩
def J1w:ByteArray:=⟨#[118,111,116,101]⟩
namespace Tree
def size (t:Tree):Nat:=t.basics.length + t.causes.length
def nodes (t:Tree):Nat:=t.basics.length + t.gates.length
def nameAt (t:Tree) (i:Nat):ByteArray:=if i < t.basics.length then bName t.basics i else cName t.causes (i - t.basics.length)
def X6d (t:Tree) (i:Nat):Int:=if i < t.basics.length then Y7m t.basics i else Y8b t.causes (i - t.basics.length)
def J2w (t:Tree) (i:Nat):Bool:=(List.range i).any fun k=>t.nameAt k == t.nameAt i
def X5x (t:Tree) (i:Nat):Int :=
 Q0j [J1b (t.nameAt i),Q0f (t.X6d i) 0 16,if t.J2w i then 9 else 0,if i < t.basics.length then 0 else X3o (Q7m t.causes (i - t.basics.length)) t.basics.length]
end Tree
def J3v (s:ByteArray):Bool:=s == J4i || s == sOr || s == J1w
def Z9n (kind:ByteArray) (need:Int) (n:Nat):Int:=if kind = J1w then Q0f need 1 n else Q0f need 0 0
def Z5t (kind:ByteArray) (need:Int) (inputs:List Int) (nodes:Int):Int :=
 Q0j [if J3v kind then 0 else 13,if 12 < inputs.length then 5 else 0,X3o inputs nodes,Z9n kind need inputs.length]
namespace Tree
def X6q (t:Tree) (i:Nat):Int:=Z5t (Y6x t.gates i) (Z4z t.gates i) (Q6p t.gates i) ((t.basics.length:Int) + i)
def err (t:Tree):Int :=
 if t.basics.length = 0 ∨ t.gates.length = 0 then 12 else if 12 < t.size ∨ 32 < t.gates.length then 5 else
 Q0j ((List.range t.size).map t.X5x ++ (List.range t.gates.length).map t.X6q)
def J1t (t:Tree) (ev:Nat -> Bool) (i:Nat):Bool:=ev i || (List.range t.causes.length).any fun k=>ev (t.basics.length + k) && has (Q7m t.causes k) i
end Tree
def Z8w (kind:ByteArray) (need:Int) (n:Nat):Int:=if kind = J4i then n else if kind = sOr then 1 else need
def failing (out:List Bool) (inputs:List Int):Nat:=inputs.countP fun x=>bx out x.toNat
def J2y (out:List Bool) (kind:ByteArray) (need:Int) (inputs:List Int):Bool:=decide (Z8w kind need inputs.length <= failing out inputs)
namespace Tree
def Z6o (t:Tree) (ev:Nat -> Bool):List Bool:=(List.range t.basics.length).map (t.J1t ev)
def Q9h (t:Tree) (ev:Nat -> Bool):Nat -> List Bool
 | 0=>t.Z6o ev
 | n + 1=>t.Q9h ev n ++ [J2y (t.Q9h ev n) (Y6x t.gates n) (Z4z t.gates n) (Q6p t.gates n)]
def states (t:Tree) (ev:Nat -> Bool):List Bool:=t.Q9h ev t.gates.length
def fails (t:Tree) (ev:Nat -> Bool):Bool:=bx (t.states ev) (t.nodes - 1)
end Tree
def evL (l:List Int) (i:Nat):Bool:=has l i
def evN (s:Nat) (i:Nat):Bool:=s.testBit i
def bitsOf (s:Nat):List Int:=((List.range 16).filter (s.testBit ·)).map Int.ofNat
def others (n:Nat) (l:List Int):List Int:=((List.range n).map Int.ofNat).filter fun x=>!has l x
def without (l:List Int) (k:Nat):List Int:=l.take k ++ l.drop (k + 1)
namespace Tree
def setB (t:Tree) (l:List Int) (paths:Bool):Bool:=if paths then !t.fails (evL (others t.size l)) else t.fails (evL l)
def Z8s (t:Tree) (l:List Int) (paths:Bool):Bool:=t.setB l paths && !(List.range l.length).any fun k=>t.setB (without l k) paths
end Tree
def Q6e:List Int -> List Int -> Bool
 | x :: l,y :: m=>if x = y then Q6e l m else decide (x < y)
 | _,_=>false
def Q1x (a b:List Int):Bool:=if a.length = b.length then Q6e a b else decide (a.length < b.length)
def Q3c (l:List Int) (out:List (List Int)):Nat -> Nat
 | 0=>0
 | n + 1=>if Q1x l (out.getD n []) then Q3c l out n else n + 1
def Z3a (l:List Int) (out:List (List Int)):List (List Int):=out.take (Q3c l out out.length) ++ [l] ++ out.drop (Q3c l out out.length)
namespace Tree
def sets (t:Tree) (paths:Bool):List (List Int):=(List.range (2 ^ t.size)).foldl (fun out s=>if t.Z8s (bitsOf s) paths then Z3a (bitsOf s) out else out) []
def single (t:Tree):List Int:=((List.range t.size).map Int.ofNat).filter fun x=>t.fails (evL [x])
end Tree
namespace Tree
end Tree
def factor (c:List Int) (s j:Nat):Int:=if s.testBit j then ix c j else 16 - ix c j
def Z9b (c:List Int) (s:Nat):Nat -> Int
 | 0=>1
 | j + 1=>Z9b c s j * factor c s j
def partOf (c:List Int) (s:Nat):Int:=Z9b c s c.length
namespace Tree
def Q4n (t:Tree) (c:List Int):Nat -> Int
 | 0=>0
 | s + 1=>t.Q4n c s + if t.fails (evN s) then partOf c s else 0
def weight (t:Tree) (c:List Int):Int:=t.Q4n c (2 ^ t.size)
end Tree
structure Ratio where
 num:Int
 den:Int
deriving DecidableEq
def lowest (a b:Int):Ratio:=⟨a / (Int.gcd a b:Int),b / (Int.gcd a b:Int)⟩
end Go.Tw
namespace Go.Tw
open Go.RowKit
structure Mem where
 name:ByteArray
 weight:Int
 classes:List Int
 outside:List Int
 inflow:List Int
structure Q0b where
 limit:Int
 ships:List Int
 members:List Mem
structure Rul where
 classes:List Int
 close:Bool
structure Grp where
 members:List Int
 weight:Int
instance:Inhabited Mem:=⟨⟨⟨#[]⟩,0,[],[],[]⟩⟩
instance:Inhabited Rul:=⟨⟨[],false⟩⟩
instance:Inhabited Grp:=⟨⟨[],0⟩⟩
def J2c (w:World) (c:Nat -> Value) (x:Mem):Prop:=c 0 = .string x.name /\ c 1 = .int .i64 x.weight /\ Q0d w (c 2) x.classes /\ Q0d w (c 3) x.outside /\ Q0d w (c 4) x.inflow /\ Short x.name
def J2q (w:World) (c:Nat -> Value) (x:Rul):Prop:=Q0d w (c 0) x.classes /\ c 1 = .bool x.close
def J2o (w:World) (c:Nat -> Value) (x:Grp):Prop:=Q0d w (c 0) x.members /\ c 1 = .int .i64 x.weight
theorem J2c.ext (w w':World) (c:Nat -> Value) (x:Mem) (hx:Ext w w') (h:J2c w c x):J2c w' c x:=⟨h.1,h.2.1,h.2.2.1.ext hx,h.2.2.2.1.ext hx,h.2.2.2.2.1.ext hx,h.2.2.2.2.2⟩
theorem J2q.ext (w w':World) (c:Nat -> Value) (x:Rul) (hx:Ext w w') (h:J2q w c x):J2q w' c x:=⟨h.1.ext hx,h.2⟩
theorem J2o.ext (w w':World) (c:Nat -> Value) (x:Grp) (hx:Ext w w') (h:J2o w c x):J2o w' c x:=⟨h.1.ext hx,h.2⟩
def Q8q:World -> Value -> List Mem -> Prop:=Rows 5 J2c
def Q3y:World -> Value -> List Rul -> Prop:=Rows 2 J2q
def Q4p:World -> Value -> List Grp -> Prop:=Rows 2 J2o
theorem Q8q.ext {w w':World} {v:Value} {l:List Mem} (h:Q8q w v l) (hx:Ext w w'):Q8q w' v l:=Rows.ext J2c.ext h hx
theorem Q3y.ext {w w':World} {v:Value} {l:List Rul} (h:Q3y w v l) (hx:Ext w w'):Q3y w' v l:=Rows.ext J2q.ext h hx
theorem Q4p.ext {w w':World} {v:Value} {l:List Grp} (h:Q4p w v l) (hx:Ext w w'):Q4p w' v l:=Rows.ext J2o.ext h hx
structure Q4m (w:World) (a b:Value) (s:Q0b):Prop where
 ships:Q0d w a s.ships
 members:Q8q w b s.members
theorem Q4m.ext {w w':World} {a b:Value} {s:Q0b} (h:Q4m w a b s) (hx:Ext w w'):Q4m w' a b s:=⟨h.ships.ext hx,h.members.ext hx⟩
def Q0h (w:World) (v:Value) (s:Q0b):Prop:=∃ a b,v = .agg #[.int .i64 s.limit,a,b] /\ Q4m w a b s
theorem Q0h.ext {w w':World} {v:Value} {s:Q0b} (h:Q0h w v s) (hx:Ext w w'):Q0h w' v s:=let ⟨a,b,hv,h2⟩:=h; ⟨a,b,hv,h2.ext hx⟩
def Q1c (w:World) (v:Value) (p:List Rul):Prop:=∃ a,v = .agg #[a] /\ Q3y w a p
theorem Q1c.ext {w w':World} {v:Value} {p:List Rul} (h:Q1c w v p) (hx:Ext w w'):Q1c w' v p:=let ⟨a,hv,h2⟩:=h; ⟨a,hv,h2.ext hx⟩
def Q1k (l:List Mem) (k:Nat):ByteArray:=(l.getD k default).name
def Q0k (l:List Mem) (k:Nat):Int:=(l.getD k default).weight
def Q0c (l:List Mem) (k:Nat):List Int:=(l.getD k default).classes
def Q0r (l:List Mem) (k:Nat):List Int:=(l.getD k default).outside
def Q0z (l:List Mem) (k:Nat):List Int:=(l.getD k default).inflow
def Q0w (l:List Rul) (k:Nat):List Int:=(l.getD k default).classes
def Q4q (l:List Rul) (k:Nat):Bool:=(l.getD k default).close
def Q5r (l:List Grp) (k:Nat):List Int:=(l.getD k default).members
def Q9d (l:List Grp) (k:Nat):Int:=(l.getD k default).weight
theorem Q8q.opened {w:World} {v:Value} {l:List Mem} (h:Q8q w v l) :
    ∃ A cap,v = .slice A l.length cap /\ l.length <= 17592186043904 /\ l.length <= cap /\ ∀ k,k < l.length -> ∃ b off x y z,A = some ⟨b,off,none⟩ /\ b < w.heap.size /\
     w.cell? ⟨b,off + k * 5,none⟩ = some (.string (Q1k l k)) /\ w.cell? ⟨b,off + k * 5 + 1,none⟩ = some (.int .i64 (Q0k l k)) /\
     w.cell? ⟨b,off + k * 5 + 2,none⟩ = some x /\ w.cell? ⟨b,off + k * 5 + 3,none⟩ = some y /\ w.cell? ⟨b,off + k * 5 + 4,none⟩ = some z /\
     Q0d w x (Q0c l k) /\ Q0d w y (Q0r l k) /\ Q0d w z (Q0z l k) /\ Short (Q1k l k):=by
 obtain ⟨c,⟨A,cap,hv,hn,hcap,hc⟩,h2⟩:=h;refine ⟨A,cap,hv,hn,hcap,fun k hk=>?_⟩;obtain ⟨b,off,hA,h0⟩:=hc (k * 5) (by omega)
 obtain ⟨b',off',hA',h1⟩:=hc (k * 5 + 1) (by omega)
 rw [hA] at hA'; cases hA';obtain ⟨b',off',hA',h3⟩:=hc (k * 5 + 2) (by omega)
 rw [hA] at hA'; cases hA';obtain ⟨b',off',hA',h4⟩:=hc (k * 5 + 3) (by omega)
 rw [hA] at hA'; cases hA';obtain ⟨b',off',hA',h5⟩:=hc (k * 5 + 4) (by omega)
 rw [hA] at hA'; cases hA';obtain ⟨e0,e1,e2,e3,e4,e5⟩:=h2 k hk;simp only [Nat.add_zero] at e0 e1;refine ⟨b,off,c (k * 5 + 2),c (k * 5 + 3),c (k * 5 + 4),hA,World.block_lt_of_cell? w _ h0,?_,?_,?_,?_,?_,?_,?_,?_,?_⟩
 . rw [h0,e0,Q1k,Q0v _ hk]
 . rw [Nat.add_assoc,h1,e1,Q0k,Q0v _ hk]
 . rw [Nat.add_assoc,h3]
 . rw [Nat.add_assoc,h4]
 . rw [Nat.add_assoc,h5]
 . rw [Q0c,Q0v _ hk]; exact e2
 . rw [Q0r,Q0v _ hk]; exact e3
 . rw [Q0z,Q0v _ hk]; exact e4
 . rw [Q1k,Q0v _ hk]; exact e5
theorem Q3y.opened {w:World} {v:Value} {l:List Rul} (h:Q3y w v l) :
    ∃ A cap,v = .slice A l.length cap /\ l.length <= 17592186043904 /\ l.length <= cap /\ ∀ k,k < l.length -> ∃ b off x,A = some ⟨b,off,none⟩ /\ b < w.heap.size /\
     w.cell? ⟨b,off + k * 2,none⟩ = some x /\ w.cell? ⟨b,off + k * 2 + 1,none⟩ = some (.bool (Q4q l k)) /\ Q0d w x (Q0w l k):=by
 obtain ⟨c,⟨A,cap,hv,hn,hcap,hc⟩,h2⟩:=h;refine ⟨A,cap,hv,hn,hcap,fun k hk=>?_⟩;obtain ⟨b,off,hA,h0⟩:=hc (k * 2) (by omega)
 obtain ⟨b',off',hA',h1⟩:=hc (k * 2 + 1) (by omega)
 rw [hA] at hA'; cases hA';obtain ⟨e0,e1⟩:=h2 k hk;simp only [Nat.add_zero] at e0 e1;refine ⟨b,off,c (k * 2),hA,World.block_lt_of_cell? w _ h0,?_,?_,?_⟩
 . rw [h0]
 . rw [Nat.add_assoc,h1,e1,Q4q,Q0v _ hk]
 . rw [Q0w,Q0v _ hk]; exact e0
theorem Q4p.opened {w:World} {v:Value} {l:List Grp} (h:Q4p w v l) :
    ∃ A cap,v = .slice A l.length cap /\ l.length <= 17592186043904 /\ l.length <= cap /\ ∀ k,k < l.length -> ∃ b off x,A = some ⟨b,off,none⟩ /\ b < w.heap.size /\
     w.cell? ⟨b,off + k * 2,none⟩ = some x /\ w.cell? ⟨b,off + k * 2 + 1,none⟩ = some (.int .i64 (Q9d l k)) /\ Q0d w x (Q5r l k):=by
 obtain ⟨c,⟨A,cap,hv,hn,hcap,hc⟩,h2⟩:=h;refine ⟨A,cap,hv,hn,hcap,fun k hk=>?_⟩;obtain ⟨b,off,hA,h0⟩:=hc (k * 2) (by omega)
 obtain ⟨b',off',hA',h1⟩:=hc (k * 2 + 1) (by omega)
 rw [hA] at hA'; cases hA';obtain ⟨e0,e1⟩:=h2 k hk;simp only [Nat.add_zero] at e0 e1;refine ⟨b,off,c (k * 2),hA,World.block_lt_of_cell? w _ h0,?_,?_,?_⟩
 . rw [h0]
 . rw [Nat.add_assoc,h1,e1,Q9d,Q0v _ hk]
 . rw [Q5r,Q0v _ hk]; exact e0
end Go.Tw
namespace Go.Proofs
open Go.RowKit Go.Tw Go.ChangeShapes Go.WideShapes Go.Deep
section
variable {H:Type} {enc:TypeId × Value -> H} {W:World}
def Q7z (t:TypeId) (d:DataW H):Prop:=∀ x ∈ d.weights Tryz.prog t,x <= 140737488351232
theorem Q9w (b off n:Nat):(⟨b,off,none⟩:Addr).add n = ⟨b,off + n,none⟩:=by
 unfold Addr.add
 split
 . simp_all
 . rfl
theorem X4j {α:Type} [Inhabited α] {t e:TypeId} {k bts fuel:Nat} {v:Value} {y:DataW H × List MemPlace} {R:World -> (Nat -> Value) -> α -> Prop} (ht:Tryz.prog.underlying t = some (.slice e)) (hc:Tryz.prog.cellsOf e = k) (hk:0 < k) (hb:Tryz.prog.bytesOf e = bts) (h8:8 <= bts)
    (hel:∀ (cs:List Value) (y:DataW H × List MemPlace) (n:Nat),cs.length = k -> DataW.trod enc Tryz.prog W 0 (fun _=>true) true n e cs = some y -> Q7z e y.1 -> ∃ x:α,R W (fun i=>cs.getD i undef) x)
    (hloc:∀ (w:World) (c c':Nat -> Value) (x:α),(∀ i,i < k -> c i = c' i) -> R w c x -> R w c' x)
    (h:DataW.trod enc Tryz.prog W 0 (fun _=>true) true fuel t [v] = some y) (hw:Q7z t y.1):∃ l:List α,Go.Tw.Rows k R W v l:=by
 rcases open_slice ht h with ⟨hcs,_⟩ | ⟨a,len,cap,m,n,D,Pl,hcs,_,hlc,_,hm,rfl,hx⟩
 . obtain rfl:v = .slice none 0 0:=by simpa using hcs
   exact ⟨[],Go.Tw.Rows.nil _ _ _⟩
 . obtain rfl:v = .slice (some a) len cap:=by simpa using hcs
   simp only [if_true] at hm;subst hm;rw [hc] at hx;have hhead:(len + (m - len)) * bts <= 140737488351232:=by
    have:=hw ((((List.range len).map D).length + ((List.range (m - len)).map fun j=>D (len + j)).length) * Tryz.prog.bytesOf e) (by simp [DataW.weights,ht])
    simpa [hb] using this
   have hm8:m * 8 <= 140737488351232:=by
    have h1:m = len + (m - len):=by omega
    rw [<- h1] at hhead;exact Nat.le_trans (Nat.mul_le_mul_left m h8) hhead
   have hfit:∀ i,i < len -> Q7z e (D i):=by
    intro i hi x hx';refine hw x ?_;have e1:∀ (l:List (DataW H)) d,d ∈ l -> x ∈ d.weights Tryz.prog e -> x ∈ DataW.weightsAll Tryz.prog e l:=by
     intro l
     induction l with
     | nil=>intro d hd; cases hd
     | cons d0 l ih =>
       intro d hd hxx;rw [DataW.weightsAll]
       rcases List.mem_cons.1 hd with rfl | hd
       . exact List.mem_append_left _ hxx
       . exact List.mem_append_right _ (ih d hd hxx)
    simp only [DataW.weights,ht];refine List.mem_cons_of_mem _ (List.mem_append_left _ (e1 _ (D i) ?_ hx'));exact List.mem_map.2 ⟨i,List.mem_range.2 hi,rfl⟩
   obtain ⟨f,hf⟩:=choose_lt (α:=List Value) (n:=len) (p:=fun i cs=>(∀ r,r < k -> W.cell? ((a.add (i * k)).add r) = cs[r]?) /\ cs.length = k /\ ∃ x:α,R W (fun j=>cs.getD j undef) x) (fun i hi=>by
    obtain ⟨cs,h1,h2⟩:=hx i (by omega)
    obtain ⟨_,h3,h4⟩:=World.cells?_some h1;exact ⟨cs,h4,h3,hel cs _ n h3 h2 (hfit i hi)⟩)
   obtain ⟨g,hg⟩:=choose_lt (α:=α) (n:=len) (p:=fun i x=>R W (fun j=>(f i).getD j undef) x) (fun i hi=>(hf i hi).2.2)
   have hR:∀ i,i < len -> R W (fun j=>(f ((i * k + j) / k)).getD ((i * k + j) % k) undef) (g i):=fun i hi=>hloc W _ _ _ (fun j hj=>by
    have e1:(i * k + j) / k = i:=by rw [Nat.mul_comm,Nat.mul_add_div hk,Nat.div_eq_of_lt hj,Nat.add_zero]
    have e2:(i * k + j) % k = j:=by rw [Nat.mul_comm,Nat.mul_add_mod,Nat.mod_eq_of_lt hj]
    rw [e1,e2]) (hg i hi)
   refine ⟨(List.range len).map g,fun j=>(f (j / k)).getD (j % k) undef,⟨some a,m,by simp,by simp; omega,by simpa using hlc,fun j hj=>?_⟩,fun j hj=>?_⟩
   . have hj':j < len * k:=by simpa using hj
     have hq:j / k < len:=(Nat.div_lt_iff_lt_mul hk).2 hj';have hr:j % k < k:=Nat.mod_lt _ hk;obtain ⟨h1,h2,_⟩:=hf (j / k) hq;have h3:=h1 (j % k) hr;rw [List.getElem?_eq_getElem (by omega)] at h3
     have hsp:a.spot = none:=by
      obtain ⟨g1,g2,_⟩:=hf 0 (Nat.lt_of_le_of_lt (Nat.zero_le _) hq);have g3:=g1 0 hk;rw [List.getElem?_eq_getElem (by omega)] at g3
      have:=World.cell?_spot g3
      simpa [Addr.add] using this
     obtain ⟨b,off,spot⟩:=a;obtain rfl:spot = none:=hsp;refine ⟨b,off,rfl,?_⟩;have e:(((⟨b,off,none⟩:Addr).add (j / k * k)).add (j % k)) = ⟨b,off + j,none⟩:=by
      rw [Q9w,Q9w,Nat.add_assoc];have:j / k * k + j % k = j:=by rw [Nat.mul_comm]; exact Nat.div_add_mod j k
      rw [this]
     rw [e] at h3;rw [h3];simp [h2,hr]
   . have hj':j < len:=by simpa using hj
     have:=hR j hj'
     simpa using this
theorem Y2u {α:Type} [Inhabited α] {t e:TypeId} {k fuel:Nat} {v:Value} {y:DataW H × List MemPlace} {R:World -> (Nat -> Value) -> α -> Prop} (ht:Tryz.prog.underlying t = some (.slice e)) (hc:Tryz.prog.cellsOf e = k) (hk:0 < k)
    (hel:∀ (cs:List Value) (y:DataW H × List MemPlace) (n:Nat),cs.length = k -> DataW.trod enc Tryz.prog W 0 (fun _=>true) true n e cs = some y -> Q7z e y.1 -> ∃ x:α,R W (fun i=>cs.getD i undef) x)
    (hloc:∀ (w:World) (c c':Nat -> Value) (x:α),(∀ i,i < k -> c i = c' i) -> R w c x -> R w c' x)
    (hlen:∀ a n c,v = .slice a n c -> n <= 17592186043904) (h:DataW.trod enc Tryz.prog W 0 (fun _=>true) true fuel t [v] = some y) (hw:Q7z t y.1):∃ l:List α,Go.Tw.Rows k R W v l:=by
 rcases open_slice ht h with ⟨hcs,_⟩ | ⟨a,len,cap,m,n,D,Pl,hcs,_,hlc,_,hm,rfl,hx⟩
 . obtain rfl:v = .slice none 0 0:=by simpa using hcs
   exact ⟨[],Go.Tw.Rows.nil _ _ _⟩
 . obtain rfl:v = .slice (some a) len cap:=by simpa using hcs
   simp only [if_true] at hm;subst hm;rw [hc] at hx;have hll:=hlen _ _ _ rfl;have hfit:∀ i,i < len -> Q7z e (D i):=by
    intro i hi x hx';refine hw x ?_;have e1:∀ (l:List (DataW H)) d,d ∈ l -> x ∈ d.weights Tryz.prog e -> x ∈ DataW.weightsAll Tryz.prog e l:=by
     intro l
     induction l with
     | nil=>intro d hd; cases hd
     | cons d0 l ih =>
       intro d hd hxx;rw [DataW.weightsAll]
       rcases List.mem_cons.1 hd with rfl | hd
       . exact List.mem_append_left _ hxx
       . exact List.mem_append_right _ (ih d hd hxx)
    simp only [DataW.weights,ht];refine List.mem_cons_of_mem _ (List.mem_append_left _ (e1 _ (D i) ?_ hx'));exact List.mem_map.2 ⟨i,List.mem_range.2 hi,rfl⟩
   obtain ⟨f,hf⟩:=choose_lt (α:=List Value) (n:=len) (p:=fun i cs=>(∀ r,r < k -> W.cell? ((a.add (i * k)).add r) = cs[r]?) /\ cs.length = k /\ ∃ x:α,R W (fun j=>cs.getD j undef) x) (fun i hi=>by
    obtain ⟨cs,h1,h2⟩:=hx i (by omega)
    obtain ⟨_,h3,h4⟩:=World.cells?_some h1;exact ⟨cs,h4,h3,hel cs _ n h3 h2 (hfit i hi)⟩)
   obtain ⟨g,hg⟩:=choose_lt (α:=α) (n:=len) (p:=fun i x=>R W (fun j=>(f i).getD j undef) x) (fun i hi=>(hf i hi).2.2)
   have hR:∀ i,i < len -> R W (fun j=>(f ((i * k + j) / k)).getD ((i * k + j) % k) undef) (g i):=fun i hi=>hloc W _ _ _ (fun j hj=>by
    have e1:(i * k + j) / k = i:=by rw [Nat.mul_comm,Nat.mul_add_div hk,Nat.div_eq_of_lt hj,Nat.add_zero]
    have e2:(i * k + j) % k = j:=by rw [Nat.mul_comm,Nat.mul_add_mod,Nat.mod_eq_of_lt hj]
    rw [e1,e2]) (hg i hi)
   refine ⟨(List.range len).map g,fun j=>(f (j / k)).getD (j % k) undef,⟨some a,m,by simp,by simpa using hll,by simpa using hlc,fun j hj=>?_⟩,fun j hj=>?_⟩
   . have hj':j < len * k:=by simpa using hj
     have hq:j / k < len:=(Nat.div_lt_iff_lt_mul hk).2 hj';have hr:j % k < k:=Nat.mod_lt _ hk;obtain ⟨h1,h2,_⟩:=hf (j / k) hq;have h3:=h1 (j % k) hr;rw [List.getElem?_eq_getElem (by omega)] at h3
     have hsp:a.spot = none:=by
      obtain ⟨g1,g2,_⟩:=hf 0 (Nat.lt_of_le_of_lt (Nat.zero_le _) hq);have g3:=g1 0 hk;rw [List.getElem?_eq_getElem (by omega)] at g3
      have:=World.cell?_spot g3
      simpa [Addr.add] using this
     obtain ⟨b,off,spot⟩:=a;obtain rfl:spot = none:=hsp;refine ⟨b,off,rfl,?_⟩;have e:(((⟨b,off,none⟩:Addr).add (j / k * k)).add (j % k)) = ⟨b,off + j,none⟩:=by
      rw [Q9w,Q9w,Nat.add_assoc];have:j / k * k + j % k = j:=by rw [Nat.mul_comm]; exact Nat.div_add_mod j k
      rw [this]
     rw [e] at h3;rw [h3];simp [h2,hr]
   . have hj':j < len:=by simpa using hj
     have:=hR j hj'
     simpa using this
theorem Tryz.c3:Tryz.prog.cellsOf 3 = 1:=by kernel_rfl
theorem Tryz.b3:Tryz.prog.bytesOf 3 = 8:=by kernel_rfl
theorem Q6j {fuel:Nat} {v:Value} {y:DataW H × List MemPlace} (h:DataW.trod enc Tryz.prog W 0 (fun _=>true) true fuel 22 [v] = some y) (hw:Q7z 22 y.1):∃ l,Q0d W v l :=
 X4j (α:=Int) Tryz.underlying22 Tryz.c3 (by decide) Tryz.b3 (by decide) (fun cs y n hl h _=>by
  obtain ⟨z,rfl,_,_⟩:=DataW.trod_int Tryz.underlying3 h;exact ⟨z,rfl⟩) (fun _ c c' x hc h=>by rw [<- hc 0 (by decide)]; exact h) h hw
theorem str_of_trod {fuel:Nat} {v:Value} {y:DataW H × List MemPlace} (h:DataW.trod enc Tryz.prog W 0 (fun _=>true) true fuel 9 [v] = some y) (hw:Q7z 9 y.1):∃ s,v = .string s /\ Short s:=by
 obtain ⟨s,h1,rfl,_⟩:=DataW.trod_string Tryz.underlying9 h;refine ⟨s,by simpa using h1,?_⟩
 have:=hw s.data.toList.length (by simp [DataW.weights])
 have e:s.data.toList.length = s.size:=Array.length_toList;unfold Short;omega
theorem int_of_trod {fuel:Nat} {v:Value} {y:DataW H × List MemPlace} (h:DataW.trod enc Tryz.prog W 0 (fun _=>true) true fuel 3 [v] = some y):∃ z,v = .int .i64 z:=by
 obtain ⟨z,h1,_,_⟩:=DataW.trod_int Tryz.underlying3 h;exact ⟨z,by simpa using h1⟩
theorem Q3g {t:TypeId} {ts:List TypeId} {d:DataW H} {ds:List (DataW H)} (h:∀ x ∈ DataW.weightsEach Tryz.prog (t :: ts) (d :: ds),x <= 140737488351232):Q7z t d /\ ∀ x ∈ DataW.weightsEach Tryz.prog ts ds,x <= 140737488351232:=by
 rw [DataW.weightsEach] at h;exact ⟨fun x hx=>h x (List.mem_append_left _ hx),fun x hx=>h x (List.mem_append_right _ hx)⟩
theorem Tryz.cS:Tryz.prog.cellsOf 9 = 1:=by kernel_rfl
theorem Tryz.cI:Tryz.prog.cellsOf 22 = 1:=by kernel_rfl
theorem Tryz.cBo:Tryz.prog.cellsOf 4 = 1:=by kernel_rfl
theorem Y1z {fuel:Nat} {v:Value} {y:DataW H × List MemPlace} (hlen:∀ a n c,v = .slice a n c -> n <= 17592186043904) (h:DataW.trod enc Tryz.prog W 0 (fun _=>true) true fuel 82 [v] = some y) (hw:Q7z 82 y.1):∃ l,Q0x W v l :=
 Y2u (α:=Bool) Tryz.underlying82 Tryz.cBo (by decide) (fun cs y n hl h _=>by
  obtain ⟨z,rfl,_⟩:=DataW.trod_bool Tryz.underlying4 h;exact ⟨z,rfl⟩) (fun _ c c' x hc h=>by rw [<- hc 0 (by decide)]; exact h) hlen h hw
theorem Y3t {t:TypeId} {f0 f1 f2 f3 f4:Field} {fuel:Nat} {cs:List Value} {x:DataW H × List MemPlace} (ht:Tryz.prog.underlying t = some (.struct #[f0,f1,f2,f3,f4])) (h:DataW.trod enc Tryz.prog W 0 (fun _=>true) true fuel t cs = some x) :
    ∃ y0 y1 y2 y3 y4 n,x = (.agg [y0.1,y1.1,y2.1,y3.1,y4.1],y0.2 ++ (y1.2 ++ (y2.2 ++ (y3.2 ++ y4.2)))) /\ cs.length = Tryz.prog.cellsOf t /\ DataW.trod enc Tryz.prog W 0 (fun _=>true) true n f0.type ((cs.drop f0.offset).take (Tryz.prog.cellsOf f0.type)) = some y0 /\
     DataW.trod enc Tryz.prog W 0 (fun _=>true) true n f1.type ((cs.drop f1.offset).take (Tryz.prog.cellsOf f1.type)) = some y1 /\ DataW.trod enc Tryz.prog W 0 (fun _=>true) true n f2.type ((cs.drop f2.offset).take (Tryz.prog.cellsOf f2.type)) = some y2 /\
     DataW.trod enc Tryz.prog W 0 (fun _=>true) true n f3.type ((cs.drop f3.offset).take (Tryz.prog.cellsOf f3.type)) = some y3 /\ DataW.trod enc Tryz.prog W 0 (fun _=>true) true n f4.type ((cs.drop f4.offset).take (Tryz.prog.cellsOf f4.type)) = some y4:=by
 obtain ⟨xs,n,_,rfl,hl,hlen,hf⟩:=DataW.trod_struct ht h
 match xs,hlen with
 | [y0,y1,y2,y3,y4],_=>exact ⟨y0,y1,y2,y3,y4,n,by simp,hl,by simpa using hf 0 f0 rfl,by simpa using hf 1 f1 rfl,by simpa using hf 2 f2 rfl,by simpa using hf 3 f3 rfl,by simpa using hf 4 f4 rfl⟩
theorem Tryz.cMb:Tryz.prog.cellsOf 68 = 5:=by kernel_rfl
theorem Tryz.bMb:Tryz.prog.bytesOf 68 = 96:=by kernel_rfl
theorem Y3w {fuel:Nat} {v:Value} {y:DataW H × List MemPlace} (h:DataW.trod enc Tryz.prog W 0 (fun _=>true) true fuel 23 [v] = some y) (hw:Q7z 23 y.1):∃ l,Q8q W v l :=
 X4j (α:=Mem) Tryz.underlying23 Tryz.cMb (by decide) Tryz.bMb (by decide) (fun cs y n hl h hw=>by
  obtain ⟨y0,y1,y2,y3,y4,m,rfl,_,h0,h1,h2,h3,h4⟩:=Y3t Tryz.underlying68 h
  match cs,hl with
  | [c0,c1,c2,c3,c4],_ =>
    have hw2:∀ x ∈ DataW.weightsEach Tryz.prog [9,3,22,22,22] [y0.1,y1.1,y2.1,y3.1,y4.1],x <= 140737488351232:=fun x hx=>hw x (by simpa [DataW.weights,Tryz.underlying68] using hx)
    obtain ⟨w0,r0⟩:=Q3g hw2;obtain ⟨_,r1⟩:=Q3g r0;obtain ⟨w2,r2⟩:=Q3g r1;obtain ⟨w3,r3⟩:=Q3g r2;obtain ⟨w4,_⟩:=Q3g r3;have h0':DataW.trod enc Tryz.prog W 0 (fun _=>true) true m 9 [c0] = some y0:=by simpa [Tryz.cS,Tryz.c3,Tryz.cI] using h0
    have h1':DataW.trod enc Tryz.prog W 0 (fun _=>true) true m 3 [c1] = some y1:=by simpa [Tryz.cS,Tryz.c3,Tryz.cI] using h1
    have h2':DataW.trod enc Tryz.prog W 0 (fun _=>true) true m 22 [c2] = some y2:=by simpa [Tryz.cS,Tryz.c3,Tryz.cI] using h2
    have h3':DataW.trod enc Tryz.prog W 0 (fun _=>true) true m 22 [c3] = some y3:=by simpa [Tryz.cS,Tryz.c3,Tryz.cI] using h3
    have h4':DataW.trod enc Tryz.prog W 0 (fun _=>true) true m 22 [c4] = some y4:=by simpa [Tryz.cS,Tryz.c3,Tryz.cI] using h4
    obtain ⟨s,rfl,hs⟩:=str_of_trod h0' w0;obtain ⟨z,rfl⟩:=int_of_trod h1';obtain ⟨l2,hl2⟩:=Q6j h2' w2;obtain ⟨l3,hl3⟩:=Q6j h3' w3;obtain ⟨l4,hl4⟩:=Q6j h4' w4;exact ⟨⟨s,z,l2,l3,l4⟩,rfl,rfl,hl2,hl3,hl4,hs⟩)
  (fun _ c c' x hc h=>⟨by rw [<- hc 0 (by decide)]; exact h.1,by rw [<- hc 1 (by decide)]; exact h.2.1,by rw [<- hc 2 (by decide)]; exact h.2.2.1,by rw [<- hc 3 (by decide)]; exact h.2.2.2.1,by rw [<- hc 4 (by decide)]; exact h.2.2.2.2.1,h.2.2.2.2.2⟩) h hw
theorem Tryz.cSn:Tryz.prog.cellsOf 25 = 3:=by kernel_rfl
theorem X8x {b0:Nat} {v:Value} {d:DataW H} {ps:List MemPlace} (hv:Value.okWide Tryz.prog W .any b0 25 v) (h:DataW.Trod enc Tryz.prog W 0 (fun _=>true) true 25 v d ps) (hw:Q7z 25 d):∃ t,Q0h W v t:=by
 obtain ⟨cs,rfl,hsz⟩:=okWide_struct Tryz.underlying25 hv;rw [Tryz.cSn] at hsz;obtain ⟨c0,c1,c2,rfl⟩:∃ a b c,cs = #[a,b,c]:=by
  obtain ⟨l⟩:=cs
  match l,hsz with
  | [a,b,c],_=>exact ⟨a,b,c,rfl⟩
 obtain ⟨fuel,hf⟩:=h;obtain ⟨y0,y1,y2,m,hx,_,h0,h1,h2⟩:=trod_struct3 Tryz.underlying25 hf;simp only [Prod.mk.injEq] at hx;obtain ⟨rfl,_⟩:=hx;have hw2:∀ x ∈ DataW.weightsEach Tryz.prog [3,22,23] [y0.1,y1.1,y2.1],x <= 140737488351232:=fun x hx=>hw x (by simpa [DataW.weights,Tryz.underlying25] using hx)
 obtain ⟨_,r0⟩:=Q3g hw2;obtain ⟨w1,r1⟩:=Q3g r0;obtain ⟨w2,_⟩:=Q3g r1;have e2:Tryz.prog.cellsOf 23 = 1:=by kernel_rfl
 have h0':DataW.trod enc Tryz.prog W 0 (fun _=>true) true m 3 [c0] = some y0:=by simpa [Tryz.c3,Tryz.cI,e2,Value.cells] using h0
 have h1':DataW.trod enc Tryz.prog W 0 (fun _=>true) true m 22 [c1] = some y1:=by simpa [Tryz.c3,Tryz.cI,e2,Value.cells] using h1
 have h2':DataW.trod enc Tryz.prog W 0 (fun _=>true) true m 23 [c2] = some y2:=by simpa [Tryz.c3,Tryz.cI,e2,Value.cells] using h2
 obtain ⟨z,rfl⟩:=int_of_trod h0';obtain ⟨b,hb⟩:=Q6j h1' w1;obtain ⟨c,hc⟩:=Y3w h2' w2;exact ⟨⟨z,b,c⟩,_,_,rfl,⟨hb,hc⟩⟩
end
end Go.Proofs
