/- What values read as: slices as lists, structs as structures; all of it is kept where memory only grows. Trees as data, and what the values of the Go types read as. Slices that a call makes and appends to, read as lists. What the functions of chapter 7 come to, in plain lists and numbers: no program is in sight here. Contracts of small functions of the references. -/
import Derived.WalkKit
import Derived.WalkSpells
import Derived.WalkLawsBesides
import Derived.Lib.Hide
import Derived.Below
import Derived.Carry
import Derived.Laws.AppendOwn
import Derived.Deep.DeepMust
import Derived.Deep.Light
import Derived.Test.YthnobngcipaljaaGreatDoorProg
import Derived.Deep.QuietTactic
import Derived.BigQuiet
set_option maxRecDepth 1000000
set_option maxHeartbeats 64000000
set_option linter.unusedVariables false
set_option linter.unusedSimpArgs false
set_option linter.constructorNameAsVariable false
namespace Go.Tw
open Go.RowKit
theorem gA {α:Type} (l:List α) (i:Nat):l.toArray[i]?=l[i]?:=by simp
theorem gB {α:Type} (a:α) (l:List α):(a :: l)[0]?=some a:=rfl
theorem gC {α:Type} (a:α) (l:List α) (i:Nat):(a :: l)[i + 1]?=l[i]?:=by simp
def Ext (w w':World):Prop:=Below w.heap.size w w'
theorem Ext.refl (w:World):Ext w w:=Below.refl _ _
theorem Ext.trans {a b c:World} (h:Ext a b) (k:Ext b c):Ext a c:=Below.trans h (Below.mono k h.size)
theorem Ext.drew {a b:World} (h:Ext a b):Ext a b.drew:=Below.drew h
theorem Ext.alloc {a b:World} (h:Ext a b) (o:Obj):Ext a (b.alloc o):=Below.alloc h h.size o
theorem Ext.below {a b:World} (h:Ext a b) {n:Nat} (hn:n <= a.heap.size):Below n a b:=Below.mono h hn
theorem Ext.cell {a b:World} (h:Ext a b) {p:Addr} {v:Value} (hc:a.cell? p=some v):b.cell? p=some v :=
 (Below.cell h (World.block_lt_of_cell? a p hc)).trans hc
theorem Ext.size {a b:World} (h:Ext a b):a.heap.size <= b.heap.size:=Below.size h
def ix (l:List Int) (k:Nat):Int:=l.getD k 0
theorem Q4s {l:List Int} {k:Nat} (h:k < l.length):ix l k=l[k]:=by simp [ix,h]
def Row (w:World) (v:Value) (n sz:Nat) (c:Nat -> Value):Prop :=
 ∃ A cap,v=.slice A n cap /\ n <= 17592186043904 /\ n <= cap /\ ∀ j,j < n * sz -> ∃ b off,A=some ⟨b,off,none⟩ /\ w.cell? ⟨b,off + j,none⟩=some (c j)
theorem Row.ext {w w':World} {v:Value} {n sz:Nat} {c:Nat -> Value} (h:Row w v n sz c) (hx:Ext w w'):Row w' v n sz c:=by
 obtain ⟨A,cap,hv,hn,hcap,hc⟩:=h;exact ⟨A,cap,hv,hn,hcap,fun j hj=>let ⟨b,off,hA,h⟩:=hc j hj; ⟨b,off,hA,hx.cell h⟩⟩
def Rows {α:Type} (sz:Nat) (R:World -> (Nat -> Value) -> α -> Prop) (w:World) (v:Value) (l:List α):Prop :=
 ∃ c,Row w v l.length sz c /\ ∀ j (h:j < l.length),R w (fun i=>c (j * sz + i)) l[j]
theorem Rows.ext {α:Type} {sz:Nat} {R:World -> (Nat -> Value) -> α -> Prop} (hR:∀ w w' c x,Ext w w' -> R w c x -> R w' c x) {w w':World} {v:Value} {l:List α}
    (h:Rows sz R w v l) (hx:Ext w w'):Rows sz R w' v l:=by
 obtain ⟨c,h1,h2⟩:=h;exact ⟨c,h1.ext hx,fun j hj=>hR _ _ _ _ hx (h2 j hj)⟩
theorem Rows.nil {α:Type} (sz:Nat) (R:World -> (Nat -> Value) -> α -> Prop) (w:World):Rows sz R w (.slice none 0 0) [] :=
 ⟨fun _=>undef,⟨none,0,rfl,by simp,by simp,fun j hj=>by simp at hj⟩,fun j hj=>by simp at hj⟩
def Q0d:World -> Value -> List Int -> Prop:=Rows 1 fun _ c x=>c 0=.int .i64 x
def Q1q:World -> Value -> List Bool -> Prop:=Rows 1 fun _ c x=>c 0=.bool x
def Z0y:World -> Value -> List ByteArray -> Prop:=Rows 1 fun _ c x=>c 0=.string x
def Q2z:World -> Value -> List (List Int) -> Prop:=Rows 1 fun w c x=>Q0d w (c 0) x
theorem Q0d.ext {w w':World} {v:Value} {l:List Int} (h:Q0d w v l) (hx:Ext w w'):Q0d w' v l:=Rows.ext (fun _ _ _ _ _ h=>h) h hx
theorem Q1q.ext {w w':World} {v:Value} {l:List Bool} (h:Q1q w v l) (hx:Ext w w'):Q1q w' v l:=Rows.ext (fun _ _ _ _ _ h=>h) h hx
theorem Z0y.ext {w w':World} {v:Value} {l:List ByteArray} (h:Z0y w v l) (hx:Ext w w'):Z0y w' v l:=Rows.ext (fun _ _ _ _ _ h=>h) h hx
theorem Q2z.ext {w w':World} {v:Value} {l:List (List Int)} (h:Q2z w v l) (hx:Ext w w'):Q2z w' v l:=Rows.ext (fun _ _ _ _ hx h=>h.ext hx) h hx
theorem Q0d.opened {w:World} {v:Value} {l:List Int} (h:Q0d w v l) :
    ∃ A cap,v=.slice A l.length cap /\ l.length <= 17592186043904 /\ l.length <= cap /\ ∀ k,k < l.length -> ∃ b off,A=some ⟨b,off,none⟩ /\ w.cell? ⟨b,off + k,none⟩=some (.int .i64 (ix l k)):=by
 obtain ⟨c,⟨A,cap,hv,hn,hcap,hc⟩,h2⟩:=h;refine ⟨A,cap,hv,hn,hcap,fun k hk=>?_⟩;obtain ⟨b,off,hA,h⟩:=hc k (by omega)
 refine ⟨b,off,hA,?_⟩;have:=h2 k hk;simp only [Nat.mul_one,Nat.add_zero] at this;rw [h,this,Q4s hk]
end Go.Tw
namespace Go.Tw
open Go.RowKit
structure Basic where
 name:ByteArray
 chance:Int
structure X7g where
 name:ByteArray
 chance:Int
 members:List Int
structure Gate where
 kind:ByteArray
 need:Int
 inputs:List Int
structure Tree where
 basics:List Basic
 causes:List X7g
 gates:List Gate
instance:Inhabited Basic:=⟨⟨⟨#[]⟩,0⟩⟩
instance:Inhabited X7g:=⟨⟨⟨#[]⟩,0,[]⟩⟩
instance:Inhabited Gate:=⟨⟨⟨#[]⟩,0,[]⟩⟩
def Short (s:ByteArray):Prop:=s.size <= 140737488355328
def Y4d (_:World) (c:Nat -> Value) (x:Basic):Prop:=c 0=.string x.name /\ c 1=.int .i64 x.chance /\ Short x.name
def Y3p (w:World) (c:Nat -> Value) (x:X7g):Prop:=c 0=.string x.name /\ c 1=.int .i64 x.chance /\ Q0d w (c 2) x.members /\ Short x.name
def Z2x (w:World) (c:Nat -> Value) (x:Gate):Prop:=c 0=.string x.kind /\ c 1=.int .i64 x.need /\ Q0d w (c 2) x.inputs /\ Short x.kind
theorem Y4d.ext (w w':World) (c:Nat -> Value) (x:Basic) (_:Ext w w') (h:Y4d w c x):Y4d w' c x:=h
theorem Y3p.ext (w w':World) (c:Nat -> Value) (x:X7g) (hx:Ext w w') (h:Y3p w c x):Y3p w' c x:=⟨h.1,h.2.1,h.2.2.1.ext hx,h.2.2.2⟩
theorem Z2x.ext (w w':World) (c:Nat -> Value) (x:Gate) (hx:Ext w w') (h:Z2x w c x):Z2x w' c x:=⟨h.1,h.2.1,h.2.2.1.ext hx,h.2.2.2⟩
def Q8s:World -> Value -> List Basic -> Prop:=Rows 2 Y4d
def Q8r:World -> Value -> List X7g -> Prop:=Rows 3 Y3p
def X2d:World -> Value -> List Gate -> Prop:=Rows 3 Z2x
theorem Q8s.ext {w w':World} {v:Value} {l:List Basic} (h:Q8s w v l) (hx:Ext w w'):Q8s w' v l:=Rows.ext Y4d.ext h hx
theorem Q8r.ext {w w':World} {v:Value} {l:List X7g} (h:Q8r w v l) (hx:Ext w w'):Q8r w' v l:=Rows.ext Y3p.ext h hx
theorem X2d.ext {w w':World} {v:Value} {l:List Gate} (h:X2d w v l) (hx:Ext w w'):X2d w' v l:=Rows.ext Z2x.ext h hx
structure Y0o (w:World) (a b c:Value) (t:Tree):Prop where
 basics:Q8s w a t.basics
 causes:Q8r w b t.causes
 gates:X2d w c t.gates
theorem Y0o.ext {w w':World} {a b c:Value} {t:Tree} (h:Y0o w a b c t) (hx:Ext w w'):Y0o w' a b c t:=⟨h.basics.ext hx,h.causes.ext hx,h.gates.ext hx⟩
def IsTree (w:World) (v:Value) (t:Tree):Prop:=∃ a b c,v=.agg #[a,b,c] /\ Y0o w a b c t
theorem IsTree.ext {w w':World} {v:Value} {t:Tree} (h:IsTree w v t) (hx:Ext w w'):IsTree w' v t:=let ⟨a,b,c,hv,h3⟩:=h; ⟨a,b,c,hv,h3.ext hx⟩
def bName (l:List Basic) (k:Nat):ByteArray:=(l.getD k default).name
def Y6d (l:List Basic) (k:Nat):Int:=(l.getD k default).chance
def cName (l:List X7g) (k:Nat):ByteArray:=(l.getD k default).name
def Y5f (l:List X7g) (k:Nat):Int:=(l.getD k default).chance
def Q6z (l:List X7g) (k:Nat):List Int:=(l.getD k default).members
def Y5c (l:List Gate) (k:Nat):ByteArray:=(l.getD k default).kind
def Z1p (l:List Gate) (k:Nat):Int:=(l.getD k default).need
def Q6i (l:List Gate) (k:Nat):List Int:=(l.getD k default).inputs
theorem Q1d {k:IntKind} {a b:Int} (h:a=b):Ending.returned (.int k a)=.returned (.int k b):=by rw [h]
theorem Q0u {a b:Bool} (h:a=b):Ending.returned (.bool a)=.returned (.bool b):=by rw [h]
def has (l:List Int) (x:Int):Bool:=l.contains x
theorem Y7j (y:Int) (l:List Int) (x:Int):has (y :: l) x=(y == x || has l x):=by
 unfold has; rw [List.contains_cons,Bool.beq_comm]
theorem Z8p {l:List Int} {x:Int}:has l x=true ↔ x ∈ l:=by simp [has]
theorem Q0v {α:Type} {l:List α} {k:Nat} (d:α) (h:k < l.length):l.getD k d=l[k]:=by simp [h]
theorem Q8s.opened {w:World} {v:Value} {l:List Basic} (h:Q8s w v l) :
    ∃ A cap,v=.slice A l.length cap /\ l.length <= 17592186043904 /\ l.length <= cap /\ ∀ k,k < l.length -> ∃ b off,A=some ⟨b,off,none⟩ /\ b < w.heap.size /\
     w.cell? ⟨b,off + k * 2,none⟩=some (.string (bName l k)) /\ w.cell? ⟨b,off + k * 2 + 1,none⟩=some (.int .i64 (Y6d l k)) /\ Short (bName l k):=by
 obtain ⟨c,⟨A,cap,hv,hn,hcap,hc⟩,h2⟩:=h;refine ⟨A,cap,hv,hn,hcap,fun k hk=>?_⟩;obtain ⟨b,off,hA,h0⟩:=hc (k * 2) (by omega)
 obtain ⟨b',off',hA',h1⟩:=hc (k * 2 + 1) (by omega)
 rw [hA] at hA'; cases hA';obtain ⟨e0,e1,e2⟩:=h2 k hk;simp only [Nat.add_zero] at e0 e1;refine ⟨b,off,hA,World.block_lt_of_cell? w _ h0,?_,?_,?_⟩
 . rw [h0,e0,bName,Q0v _ hk]
 . rw [Nat.add_assoc,h1,e1,Y6d,Q0v _ hk]
 . rw [bName,Q0v _ hk]; exact e2
theorem Q8r.opened {w:World} {v:Value} {l:List X7g} (h:Q8r w v l) :
    ∃ A cap,v=.slice A l.length cap /\ l.length <= 17592186043904 /\ l.length <= cap /\ ∀ k,k < l.length -> ∃ b off m,A=some ⟨b,off,none⟩ /\ b < w.heap.size /\
     w.cell? ⟨b,off + k * 3,none⟩=some (.string (cName l k)) /\ w.cell? ⟨b,off + k * 3 + 1,none⟩=some (.int .i64 (Y5f l k)) /\
     w.cell? ⟨b,off + k * 3 + 2,none⟩=some m /\ Q0d w m (Q6z l k) /\ Short (cName l k):=by
 obtain ⟨c,⟨A,cap,hv,hn,hcap,hc⟩,h2⟩:=h;refine ⟨A,cap,hv,hn,hcap,fun k hk=>?_⟩;obtain ⟨b,off,hA,h0⟩:=hc (k * 3) (by omega)
 obtain ⟨b',off',hA',h1⟩:=hc (k * 3 + 1) (by omega)
 rw [hA] at hA'; cases hA';obtain ⟨b',off',hA',h3⟩:=hc (k * 3 + 2) (by omega)
 rw [hA] at hA'; cases hA';obtain ⟨e0,e1,e2,e3⟩:=h2 k hk;simp only [Nat.add_zero] at e0 e1;refine ⟨b,off,c (k * 3 + 2),hA,World.block_lt_of_cell? w _ h0,?_,?_,?_,?_,?_⟩
 . rw [h0,e0,cName,Q0v _ hk]
 . rw [Nat.add_assoc,h1,e1,Y5f,Q0v _ hk]
 . rw [Nat.add_assoc,h3]
 . rw [Q6z,Q0v _ hk]; exact e2
 . rw [cName,Q0v _ hk]; exact e3
theorem X2d.opened {w:World} {v:Value} {l:List Gate} (h:X2d w v l) :
    ∃ A cap,v=.slice A l.length cap /\ l.length <= 17592186043904 /\ l.length <= cap /\ ∀ k,k < l.length -> ∃ b off m,A=some ⟨b,off,none⟩ /\ b < w.heap.size /\
     w.cell? ⟨b,off + k * 3,none⟩=some (.string (Y5c l k)) /\ w.cell? ⟨b,off + k * 3 + 1,none⟩=some (.int .i64 (Z1p l k)) /\
     w.cell? ⟨b,off + k * 3 + 2,none⟩=some m /\ Q0d w m (Q6i l k) /\ Short (Y5c l k):=by
 obtain ⟨c,⟨A,cap,hv,hn,hcap,hc⟩,h2⟩:=h;refine ⟨A,cap,hv,hn,hcap,fun k hk=>?_⟩;obtain ⟨b,off,hA,h0⟩:=hc (k * 3) (by omega)
 obtain ⟨b',off',hA',h1⟩:=hc (k * 3 + 1) (by omega)
 rw [hA] at hA'; cases hA';obtain ⟨b',off',hA',h3⟩:=hc (k * 3 + 2) (by omega)
 rw [hA] at hA'; cases hA';obtain ⟨e0,e1,e2,e3⟩:=h2 k hk;simp only [Nat.add_zero] at e0 e1;refine ⟨b,off,c (k * 3 + 2),hA,World.block_lt_of_cell? w _ h0,?_,?_,?_,?_,?_⟩
 . rw [h0,e0,Y5c,Q0v _ hk]
 . rw [Nat.add_assoc,h1,e1,Z1p,Q0v _ hk]
 . rw [Nat.add_assoc,h3]
 . rw [Q6i,Q0v _ hk]; exact e2
 . rw [Y5c,Q0v _ hk]; exact e3
def bx (l:List Bool) (k:Nat):Bool:=l.getD k false
theorem Q1q.opened {w:World} {v:Value} {l:List Bool} (h:Q1q w v l) :
    ∃ A cap,v=.slice A l.length cap /\ l.length <= 17592186043904 /\ l.length <= cap /\ ∀ k,k < l.length -> ∃ b off,A=some ⟨b,off,none⟩ /\ b < w.heap.size /\ w.cell? ⟨b,off + k,none⟩=some (.bool (bx l k)):=by
 obtain ⟨c,⟨A,cap,hv,hn,hcap,hc⟩,h2⟩:=h;refine ⟨A,cap,hv,hn,hcap,fun k hk=>?_⟩;obtain ⟨b,off,hA,h⟩:=hc k (by omega)
 refine ⟨b,off,hA,World.block_lt_of_cell? w _ h,?_⟩;have:=h2 k hk;simp only [Nat.mul_one,Nat.add_zero] at this;rw [h,this,bx,Q0v _ hk]
theorem str_eq {a b:ByteArray} (h:a=b):(a == b)=true:=by subst h; obtain ⟨⟨d⟩⟩:=a; show (Array.mk d == Array.mk d)=true; simp
theorem X1c {a b:ByteArray} (h:¬ a=b):(a == b)=false:=by
 obtain ⟨a⟩:=a; obtain ⟨b⟩:=b;show (a == b)=false;rw [beq_eq_false_iff_ne];exact fun e=>h (by rw [e])
theorem Ext.cells {a b:World} (h:Ext a b):∀ k o,k < a.heap.size -> b.cell? ⟨k,o,none⟩=a.cell? ⟨k,o,none⟩:=fun _ _ hk=>Below.cell (p:=⟨_,_,none⟩) h hk
end Go.Tw
namespace Go.Tw
open Go.RowKit
def Q0q {α:Type} (w:World) (base:Nat) (e:TypeId) (enc:α -> Value) (v:Value) (l:List α):Prop:=w.ownsRow base e 1 v l.length (l.map enc)
theorem Q0q.nil {α:Type} (w:World) (base:Nat) (e:TypeId) (enc:α -> Value):Q0q w base e enc (.slice none 0 0) []:=World.ownsRow_nil w base e 1
theorem Q0q.row {α:Type} {w:World} {base:Nat} {e:TypeId} {enc:α -> Value} {v:Value} {l:List α} (h:Q0q w base e enc v l) (hl:l.length <= 17592186043904) (c:Nat -> Value)
    (hc:∀ k (hk:k < l.length),c k=enc l[k]):Row w v l.length 1 c:=by
 obtain ⟨_,h2⟩:=h
 rcases h2 with ⟨rfl,h0⟩ | ⟨g,cap,cur,rfl,_,hg,hcap,_,_,htake⟩
 . exact ⟨none,0,by rw [h0],hl,by omega,fun j hj=>by omega⟩
 . refine ⟨some ⟨g,0,none⟩,cap,rfl,hl,hcap,fun j hj=>⟨g,0,rfl,?_⟩⟩
   have hj':j < l.length:=by omega
   rw [Nat.zero_add];have h1:=congrArg (fun l=>l[j]?) htake;simp only [Nat.mul_one,List.getElem?_take,hj',if_true,List.getElem?_map,List.getElem?_eq_getElem hj',Option.map_some] at h1;simp only [World.cell?,hg,hc j hj']
   simpa using h1
theorem Q0q.rows {α:Type} {w:World} {base:Nat} {e:TypeId} {enc:α -> Value} {v:Value} {l:List α} {R:World -> (Nat -> Value) -> α -> Prop} (h:Q0q w base e enc v l) (hl:l.length <= 17592186043904)
    (hR:∀ x ∈ l,R w (fun _=>enc x) x) (hloc:∀ c c' x,c 0=c' 0 -> R w c x -> R w c' x):Rows 1 R w v l:=by
 refine ⟨fun k=>((l.map enc)[k]?).getD undef,h.row hl _ (fun k hk=>by simp [hk]),fun j hj=>hloc _ _ _ ?_ (hR _ (List.getElem_mem hj))⟩
 simp [hj]
theorem Q0q.ints {w:World} {base:Nat} {e:TypeId} {v:Value} {l:List Int} (h:Q0q w base e (Value.int .i64) v l) (hl:l.length <= 17592186043904):Q0d w v l :=
 h.rows hl (fun _ _=>rfl) (fun _ _ _ h h'=>h ▸ h')
theorem Q0q.bools {w:World} {base:Nat} {e:TypeId} {v:Value} {l:List Bool} (h:Q0q w base e Value.bool v l) (hl:l.length <= 17592186043904):Q1q w v l :=
 h.rows hl (fun _ _=>rfl) (fun _ _ _ h h'=>h ▸ h')
theorem Q0q.below {α:Type} {w w':World} {base:Nat} {e:TypeId} {enc:α -> Value} {v:Value} {l:List α} (h:Q0q w base e enc v l) (hx:Ext w w'):Q0q w' base e enc v l:=by
 obtain ⟨h1,h2⟩:=h;refine ⟨h1,?_⟩
 rcases h2 with h2 | ⟨g,cap,cur,hv,hb,hg,r⟩
 . exact .inl h2
 . refine .inr ⟨g,cap,cur,hv,hb,?_,r⟩
   rw [Below.block hx g (Array.getElem?_eq_some_iff.1 hg).1]; exact hg
theorem Q0q.snoc {α:Type} {w:World} {base:Nat} {e:TypeId} {enc:α -> Value} {v:Value} {l:List α} {x:α} (h:w.ownsRow base e 1 v (l.length + 1) (l.map enc ++ [enc x])):Q0q w base e enc v (l ++ [x]):=by
 unfold Q0q; simpa using h
theorem Q2w {w wr w':World} {v:Value} {base:Nat} {e:TypeId} {n size:Nat} {xs:List Value} {o:Obj} (hx:Ext w wr) (hown:wr.ownsRow base e size v n xs) (hb:w.heap.size <= base) (hg:(wr.alloc o).grownBy w' v.ownBlock):Ext w w' :=
 Below.grown (hx.alloc o) hg (by have:=hx.size; simp; omega) (fun k hk=>by have:=(hown.lt k hk).1; omega)
theorem Q4p (w:World) (x:Value) (e:TypeId):∀ j u,[x][j]?=some u -> (w.alloc (.cells #[x] e)).cell? ((⟨w.heap.size,0,none⟩:Addr).add j)=some u:=by
 intro j u h;cases j with
 | zero =>
   simp only [List.getElem?_cons_zero,Option.some.injEq] at h;subst h;show (w.alloc (.cells #[x] e)).cell? ⟨w.heap.size,0,none⟩=some x;rw [World.cell?_alloc_at _ _ _ _ rfl];rfl
 | succ j=>simp at h
theorem Q3b {l:List Int} {k:Nat} (h:k < l.length):l.drop k=ix l k :: l.drop (k + 1):=by rw [Q4s h]; exact List.drop_eq_getElem_cons h
end Go.Tw
namespace Go.Tw
def Q0g:List Int -> Int
 | []=>0
 | x :: l=>if x=0 then Q0g l else x
def Q0f (x a b:Int):Int:=if x < a ∨ b < x then 3 else 0
def Z3c:List Int -> Bool
 | x :: y :: l=>decide (x < y) && Z3c (y :: l)
 | _=>true
def J2b (l:List Int) (n:Int):Bool:=l.any fun x=>decide (x < 0 ∨ n <= x)
def Y7o (l:List Int) (n:Int):Int:=if J2b l n then 10 else if Z3c l then 0 else 11
def X1q (l:List Int) (n:Int):Int:=if l=[] then 12 else Y7o l n
def Q1l (c:UInt8):Bool:=(decide (97 <= c) && decide (c <= 122)) || (decide (65 <= c) && decide (c <= 90))
def Q3j (c:UInt8):Bool:=c == 95 || (decide (48 <= c) && decide (c <= 57))
def nameB (s:ByteArray):Bool:=match s.data.toList with
 | []=>false
 | c :: l=>Q1l c && l.all (fun c=>Q1l c || Q3j c) && decide (l.length < 24)
def Z7z (s:ByteArray):Int:=if nameB s then 0 else 8
def J2c:ByteArray:=⟨#[97,110,100]⟩
def sOr:ByteArray:=⟨#[111,114]⟩
def Z9o:ByteArray:=⟨#[118,111,116,101]⟩
namespace Tree
def size (t:Tree):Nat:=t.basics.length + t.causes.length
def nodes (t:Tree):Nat:=t.basics.length + t.gates.length
def nameAt (t:Tree) (i:Nat):ByteArray:=if i < t.basics.length then bName t.basics i else cName t.causes (i - t.basics.length)
def X3x (t:Tree) (i:Nat):Int:=if i < t.basics.length then Y6d t.basics i else Y5f t.causes (i - t.basics.length)
def J0o (t:Tree) (i:Nat):Bool:=(List.range i).any fun k=>t.nameAt k == t.nameAt i
def X3s (t:Tree) (i:Nat):Int :=
 Q0g [Z7z (t.nameAt i),Q0f (t.X3x i) 0 16,if t.J0o i then 9 else 0,if i < t.basics.length then 0 else X1q (Q6z t.causes (i - t.basics.length)) t.basics.length]
end Tree
def J1g (s:ByteArray):Bool:=s == J2c || s == sOr || s == Z9o
def Z7n (kind:ByteArray) (need:Int) (n:Nat):Int:=if kind=Z9o then Q0f need 1 n else Q0f need 0 0
def Z1j (kind:ByteArray) (need:Int) (inputs:List Int) (nodes:Int):Int :=
 Q0g [if J1g kind then 0 else 13,if 12 < inputs.length then 5 else 0,X1q inputs nodes,Z7n kind need inputs.length]
namespace Tree
def X5f (t:Tree) (i:Nat):Int:=Z1j (Y5c t.gates i) (Z1p t.gates i) (Q6i t.gates i) ((t.basics.length:Int) + i)
def err (t:Tree):Int :=
 if t.basics.length=0 ∨ t.gates.length=0 then 12 else if 12 < t.size ∨ 32 < t.gates.length then 5 else
 Q0g ((List.range t.size).map t.X3s ++ (List.range t.gates.length).map t.X5f)
def Z9q (t:Tree) (ev:Nat -> Bool) (i:Nat):Bool:=ev i || (List.range t.causes.length).any fun k=>ev (t.basics.length + k) && has (Q6z t.causes k) i
end Tree
def Z6g (kind:ByteArray) (need:Int) (n:Nat):Int:=if kind=J2c then n else if kind=sOr then 1 else need
def failing (out:List Bool) (inputs:List Int):Nat:=inputs.countP fun x=>bx out x.toNat
def J0c (out:List Bool) (kind:ByteArray) (need:Int) (inputs:List Int):Bool:=decide (Z6g kind need inputs.length <= failing out inputs)
namespace Tree
def Z1k (t:Tree) (ev:Nat -> Bool):List Bool:=(List.range t.basics.length).map (t.Z9q ev)
def Q8f (t:Tree) (ev:Nat -> Bool):Nat -> List Bool
 | 0=>t.Z1k ev
 | n + 1=>t.Q8f ev n ++ [J0c (t.Q8f ev n) (Y5c t.gates n) (Z1p t.gates n) (Q6i t.gates n)]
def states (t:Tree) (ev:Nat -> Bool):List Bool:=t.Q8f ev t.gates.length
def fails (t:Tree) (ev:Nat -> Bool):Bool:=bx (t.states ev) (t.nodes - 1)
end Tree
def evL (l:List Int) (i:Nat):Bool:=has l i
def evN (s:Nat) (i:Nat):Bool:=s.testBit i
def bitsOf (s:Nat):List Int:=((List.range 16).filter (s.testBit ·)).map Int.ofNat
def others (n:Nat) (l:List Int):List Int:=((List.range n).map Int.ofNat).filter fun x=>!has l x
def without (l:List Int) (k:Nat):List Int:=l.take k ++ l.drop (k + 1)
namespace Tree
def setB (t:Tree) (l:List Int) (paths:Bool):Bool:=if paths then !t.fails (evL (others t.size l)) else t.fails (evL l)
def Z4t (t:Tree) (l:List Int) (paths:Bool):Bool:=t.setB l paths && !(List.range l.length).any fun k=>t.setB (without l k) paths
end Tree
def Q5y:List Int -> List Int -> Bool
 | x :: l,y :: m=>if x=y then Q5y l m else decide (x < y)
 | _,_=>false
def Q1s (a b:List Int):Bool:=if a.length=b.length then Q5y a b else decide (a.length < b.length)
def Q2x (l:List Int) (out:List (List Int)):Nat -> Nat
 | 0=>0
 | n + 1=>if Q1s l (out.getD n []) then Q2x l out n else n + 1
def Y9w (l:List Int) (out:List (List Int)):List (List Int):=out.take (Q2x l out out.length) ++ [l] ++ out.drop (Q2x l out out.length)
namespace Tree
def sets (t:Tree) (paths:Bool):List (List Int):=(List.range (2 ^ t.size)).foldl (fun out s=>if t.Z4t (bitsOf s) paths then Y9w (bitsOf s) out else out) []
def single (t:Tree):List Int:=((List.range t.size).map Int.ofNat).filter fun x=>t.fails (evL [x])
end Tree
namespace Tree
end Tree
def factor (c:List Int) (s j:Nat):Int:=if s.testBit j then ix c j else 16 - ix c j
def Z6k (c:List Int) (s:Nat):Nat -> Int
 | 0=>1
 | j + 1=>Z6k c s j * factor c s j
def partOf (c:List Int) (s:Nat):Int:=Z6k c s c.length
namespace Tree
def Q4d (t:Tree) (c:List Int):Nat -> Int
 | 0=>0
 | s + 1=>t.Q4d c s + if t.fails (evN s) then partOf c s else 0
def weight (t:Tree) (c:List Int):Int:=t.Q4d c (2 ^ t.size)
end Tree
structure Ratio where
 num:Int
 den:Int
deriving DecidableEq
def lowest (a b:Int):Ratio:=⟨a / (Int.gcd a b:Int),b / (Int.gcd a b:Int)⟩
end Go.Tw
namespace Go.Proofs
open Go.RowKit Go.Tw
theorem Tryz.info3:(Tryz.prog.info? 3).map (fun i=>(i.zero,i.size,i.bytes))=some (some (.int .i64 0),1,8):=by kernel_rfl
theorem Z3g (w:World) (v:Value) (l:List Int) (hv:Q0d w v l) :
    Calls Tryz.prog 22 #[v] w fun e w'=>e=.returned (.int .i64 (Q0g l)) /\ w=w':=by
 obtain ⟨A,cap,rfl,hl,hcap,hc⟩:=hv.opened;clear hv;go_enter Tryz.func22,Tryz.ntmps22;go_wp2
 go_loop [3] (fun i=>∃ k:Nat,k <= l.length /\ i=.int .i64 k /\ Q0g (l.drop k)=Q0g l) (fun i=>l.length - (intOf i).toNat)
 case atStart=>exact ⟨0,Nat.zero_le _,rfl,rfl⟩
 case round =>
  obtain ⟨k,hk,rfl,hr⟩:=hrel;have HR:=Lib.hid hr; clear hr
  by_cases hlt:k < l.length
  . obtain ⟨b,off,rfl,hcell⟩:=hc k hlt
    clear hc
    by_cases hx:ix l k=0
    . have HX:=Lib.hid hx
      have hx1:(ix l k != 0)=false:=by simp [hx]
      clear hx;go_wp2;go_round
      case rel=>exact ⟨k + 1,by omega,by go_num,by rw [<- HR.out,Q3b hlt,Q0g,if_pos HX.out]⟩
      case measure=>simp [intOf]; omega
    . have hx1:(ix l k != 0)=true:=by simp [hx]
      have HX:=Lib.hid hx; clear hx;go_wp2;go_ret;exact ⟨Q1d (by rw [<- HR.out,Q3b hlt,Q0g,if_neg HX.out]),rfl⟩
  . clear hc
    go_wp2;go_ret;exact ⟨Q1d (by rw [<- HR.out,List.drop_eq_nil_of_le (by omega)]; rfl),rfl⟩
theorem Q2a (w:World) (x a b:Int) :
    Calls Tryz.prog 87 #[.int .i64 x,.int .i64 a,.int .i64 b] w fun e w'=>e=.returned (.int .i64 (Q0f x a b)) /\ w=w':=by
 unfold Q0f
 by_cases h1:x < a
 . rw [if_pos (.inl h1)]
   go_enter Tryz.func87,Tryz.ntmps87;go_wp2;go_ret;exact ⟨rfl,rfl⟩
 . by_cases h2:b < x
   . rw [if_pos (.inr h2)]
     go_enter Tryz.func87,Tryz.ntmps87;go_wp2;go_ret;exact ⟨rfl,rfl⟩
   . rw [if_neg (by omega)]
     go_enter Tryz.func87,Tryz.ntmps87;go_wp2;go_ret;exact ⟨rfl,rfl⟩
end Go.Proofs
