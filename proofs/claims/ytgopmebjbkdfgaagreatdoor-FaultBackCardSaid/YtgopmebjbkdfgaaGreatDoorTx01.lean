/- What values read as: slices as lists, structs as structures; all of it is kept where memory only grows. Trees as data, and what the values of the Go types read as. What the arguments of a law read as: trees, lists of numbers, lists of lists. Slices that a call makes and appends to, read as lists. What the functions of chapter 7 come to, in plain lists and numbers: no program is in sight here. Contracts of small functions of the references. Contracts: sizes, names and Q0b of events; powers; sets as bits. -/
import Derived.WalkKit
import Derived.WalkSpells
import Derived.WalkLawsBesides
import Derived.Lib.Hide
import Derived.Below
import Derived.Carry
import Derived.Test.YtgopmebjbkdfgaaGreatDoorProg
import Derived.Deep.Slices
import Derived.Deep.Strs
import Derived.ProofKit
import Derived.SizedLaws
import Derived.Laws.AppendOwn
import Derived.Deep.DeepMust
import Derived.Deep.Light
import Derived.Deep.QuietTactic
import Derived.BigQuiet
set_option maxRecDepth 1000000
set_option maxHeartbeats 64000000
set_option linter.unusedVariables false
set_option linter.unusedSimpArgs false
set_option linter.constructorNameAsVariable false
namespace Go.Tw
open Go.RowKit
theorem gA {α:Type} (l:List α) (i:Nat):l.toArray[i]? = l[i]?:=by simp
theorem gB {α:Type} (a:α) (l:List α):(a :: l)[0]? = some a:=rfl
theorem gC {α:Type} (a:α) (l:List α) (i:Nat):(a :: l)[i + 1]? = l[i]?:=by simp
def Ext (w w':World):Prop:=Below w.heap.size w w'
theorem Ext.refl (w:World):Ext w w:=Below.refl _ _
theorem Ext.trans {a b c:World} (h:Ext a b) (k:Ext b c):Ext a c:=Below.trans h (Below.mono k h.size)
theorem Ext.drew {a b:World} (h:Ext a b):Ext a b.drew:=Below.drew h
theorem Ext.alloc {a b:World} (h:Ext a b) (o:Obj):Ext a (b.alloc o):=Below.alloc h h.size o
theorem Ext.below {a b:World} (h:Ext a b) {n:Nat} (hn:n <= a.heap.size):Below n a b:=Below.mono h hn
theorem Ext.cell {a b:World} (h:Ext a b) {p:Addr} {v:Value} (hc:a.cell? p = some v):b.cell? p = some v :=
 (Below.cell h (World.block_lt_of_cell? a p hc)).trans hc
theorem Ext.size {a b:World} (h:Ext a b):a.heap.size <= b.heap.size:=Below.size h
def ix (l:List Int) (k:Nat):Int:=l.getD k 0
theorem Q6t {l:List Int} {k:Nat} (h:k < l.length):ix l k = l[k]:=by simp [ix,h]
def Row (w:World) (v:Value) (n sz:Nat) (c:Nat -> Value):Prop :=
 ∃ A cap,v = .slice A n cap /\ n <= 17592186043904 /\ n <= cap /\ ∀ j,j < n * sz -> ∃ b off,A = some ⟨b,off,none⟩ /\ w.cell? ⟨b,off + j,none⟩ = some (c j)
theorem Row.ext {w w':World} {v:Value} {n sz:Nat} {c:Nat -> Value} (h:Row w v n sz c) (hx:Ext w w'):Row w' v n sz c:=by
 obtain ⟨A,cap,hv,hn,hcap,hc⟩:=h;exact ⟨A,cap,hv,hn,hcap,fun j hj=>let ⟨b,off,hA,h⟩:=hc j hj; ⟨b,off,hA,hx.cell h⟩⟩
def Rows {α:Type} (sz:Nat) (R:World -> (Nat -> Value) -> α -> Prop) (w:World) (v:Value) (l:List α):Prop :=
 ∃ c,Row w v l.length sz c /\ ∀ j (h:j < l.length),R w (fun i=>c (j * sz + i)) l[j]
theorem Rows.ext {α:Type} {sz:Nat} {R:World -> (Nat -> Value) -> α -> Prop} (hR:∀ w w' c x,Ext w w' -> R w c x -> R w' c x) {w w':World} {v:Value} {l:List α}
    (h:Rows sz R w v l) (hx:Ext w w'):Rows sz R w' v l:=by
 obtain ⟨c,h1,h2⟩:=h;exact ⟨c,h1.ext hx,fun j hj=>hR _ _ _ _ hx (h2 j hj)⟩
theorem Rows.nil {α:Type} (sz:Nat) (R:World -> (Nat -> Value) -> α -> Prop) (w:World):Rows sz R w (.slice none 0 0) [] :=
 ⟨fun _=>undef,⟨none,0,rfl,by simp,by simp,fun j hj=>by simp at hj⟩,fun j hj=>by simp at hj⟩
def Q0e:World -> Value -> List Int -> Prop:=Rows 1 fun _ c x=>c 0 = .int .i64 x
def Q5g:World -> Value -> List Bool -> Prop:=Rows 1 fun _ c x=>c 0 = .bool x
def X5n:World -> Value -> List ByteArray -> Prop:=Rows 1 fun _ c x=>c 0 = .string x
def Q1v:World -> Value -> List (List Int) -> Prop:=Rows 1 fun w c x=>Q0e w (c 0) x
theorem Q0e.ext {w w':World} {v:Value} {l:List Int} (h:Q0e w v l) (hx:Ext w w'):Q0e w' v l:=Rows.ext (fun _ _ _ _ _ h=>h) h hx
theorem Q5g.ext {w w':World} {v:Value} {l:List Bool} (h:Q5g w v l) (hx:Ext w w'):Q5g w' v l:=Rows.ext (fun _ _ _ _ _ h=>h) h hx
theorem X5n.ext {w w':World} {v:Value} {l:List ByteArray} (h:X5n w v l) (hx:Ext w w'):X5n w' v l:=Rows.ext (fun _ _ _ _ _ h=>h) h hx
theorem Q1v.ext {w w':World} {v:Value} {l:List (List Int)} (h:Q1v w v l) (hx:Ext w w'):Q1v w' v l:=Rows.ext (fun _ _ _ _ hx h=>h.ext hx) h hx
theorem Q0e.opened {w:World} {v:Value} {l:List Int} (h:Q0e w v l) :
    ∃ A cap,v = .slice A l.length cap /\ l.length <= 17592186043904 /\ l.length <= cap /\ ∀ k,k < l.length -> ∃ b off,A = some ⟨b,off,none⟩ /\ w.cell? ⟨b,off + k,none⟩ = some (.int .i64 (ix l k)):=by
 obtain ⟨c,⟨A,cap,hv,hn,hcap,hc⟩,h2⟩:=h;refine ⟨A,cap,hv,hn,hcap,fun k hk=>?_⟩;obtain ⟨b,off,hA,h⟩:=hc k (by omega)
 refine ⟨b,off,hA,?_⟩;have:=h2 k hk;simp only [Nat.mul_one,Nat.add_zero] at this;rw [h,this,Q6t hk]
end Go.Tw
namespace Go.Tw
open Go.RowKit
structure Basic where
 name:ByteArray
 chance:Int
structure Q9i where
 name:ByteArray
 chance:Int
 members:List Int
structure Gate where
 kind:ByteArray
 need:Int
 inputs:List Int
structure Tree where
 basics:List Basic
 causes:List Q9i
 gates:List Gate
instance:Inhabited Basic:=⟨⟨⟨#[]⟩,0⟩⟩
instance:Inhabited Q9i:=⟨⟨⟨#[]⟩,0,[]⟩⟩
instance:Inhabited Gate:=⟨⟨⟨#[]⟩,0,[]⟩⟩
def Short (s:ByteArray):Prop:=s.size <= 140737488355328
def Y2h (_:World) (c:Nat -> Value) (x:Basic):Prop:=c 0 = .string x.name /\ c 1 = .int .i64 x.chance /\ Short x.name
def Y1i (w:World) (c:Nat -> Value) (x:Q9i):Prop:=c 0 = .string x.name /\ c 1 = .int .i64 x.chance /\ Q0e w (c 2) x.members /\ Short x.name
def Y9z (w:World) (c:Nat -> Value) (x:Gate):Prop:=c 0 = .string x.kind /\ c 1 = .int .i64 x.need /\ Q0e w (c 2) x.inputs /\ Short x.kind
theorem Y2h.ext (w w':World) (c:Nat -> Value) (x:Basic) (_:Ext w w') (h:Y2h w c x):Y2h w' c x:=h
theorem Y1i.ext (w w':World) (c:Nat -> Value) (x:Q9i) (hx:Ext w w') (h:Y1i w c x):Y1i w' c x:=⟨h.1,h.2.1,h.2.2.1.ext hx,h.2.2.2⟩
theorem Y9z.ext (w w':World) (c:Nat -> Value) (x:Gate) (hx:Ext w w') (h:Y9z w c x):Y9z w' c x:=⟨h.1,h.2.1,h.2.2.1.ext hx,h.2.2.2⟩
def Q3m:World -> Value -> List Basic -> Prop:=Rows 2 Y2h
def Q3n:World -> Value -> List Q9i -> Prop:=Rows 3 Y1i
def Q4b:World -> Value -> List Gate -> Prop:=Rows 3 Y9z
theorem Q3m.ext {w w':World} {v:Value} {l:List Basic} (h:Q3m w v l) (hx:Ext w w'):Q3m w' v l:=Rows.ext Y2h.ext h hx
theorem Q3n.ext {w w':World} {v:Value} {l:List Q9i} (h:Q3n w v l) (hx:Ext w w'):Q3n w' v l:=Rows.ext Y1i.ext h hx
theorem Q4b.ext {w w':World} {v:Value} {l:List Gate} (h:Q4b w v l) (hx:Ext w w'):Q4b w' v l:=Rows.ext Y9z.ext h hx
structure Q5t (w:World) (a b c:Value) (t:Tree):Prop where
 basics:Q3m w a t.basics
 causes:Q3n w b t.causes
 gates:Q4b w c t.gates
theorem Q5t.ext {w w':World} {a b c:Value} {t:Tree} (h:Q5t w a b c t) (hx:Ext w w'):Q5t w' a b c t:=⟨h.basics.ext hx,h.causes.ext hx,h.gates.ext hx⟩
def IsTree (w:World) (v:Value) (t:Tree):Prop:=∃ a b c,v = .agg #[a,b,c] /\ Q5t w a b c t
theorem IsTree.ext {w w':World} {v:Value} {t:Tree} (h:IsTree w v t) (hx:Ext w w'):IsTree w' v t:=let ⟨a,b,c,hv,h3⟩:=h; ⟨a,b,c,hv,h3.ext hx⟩
def bName (l:List Basic) (k:Nat):ByteArray:=(l.getD k default).name
def Q1b (l:List Basic) (k:Nat):Int:=(l.getD k default).chance
def cName (l:List Q9i) (k:Nat):ByteArray:=(l.getD k default).name
def Q1k (l:List Q9i) (k:Nat):Int:=(l.getD k default).chance
def Q0f (l:List Q9i) (k:Nat):List Int:=(l.getD k default).members
def Q2f (l:List Gate) (k:Nat):ByteArray:=(l.getD k default).kind
def Q3e (l:List Gate) (k:Nat):Int:=(l.getD k default).need
def Q0m (l:List Gate) (k:Nat):List Int:=(l.getD k default).inputs
theorem Q0y {k:IntKind} {a b:Int} (h:a = b):Ending.returned (.int k a) = .returned (.int k b):=by rw [h]
theorem Q1j {a b:Bool} (h:a = b):Ending.returned (.bool a) = .returned (.bool b):=by rw [h]
theorem Z1f {a b:ByteArray} (h:a = b):Ending.returned (.string a) = .returned (.string b):=by rw [h]
def has (l:List Int) (x:Int):Bool:=l.contains x
theorem X4b (y:Int) (l:List Int) (x:Int):has (y :: l) x = (y == x || has l x):=by
 unfold has; rw [List.contains_cons,Bool.beq_comm]
theorem X8z {l:List Int} {x:Int}:has l x = true ↔ x ∈ l:=by simp [has]
theorem Q3w {α:Type} {l:List α} {k:Nat} (d:α) (h:k < l.length):l.getD k d = l[k]:=by simp [h]
theorem Q3m.opened {w:World} {v:Value} {l:List Basic} (h:Q3m w v l) :
    ∃ A cap,v = .slice A l.length cap /\ l.length <= 17592186043904 /\ l.length <= cap /\ ∀ k,k < l.length -> ∃ b off,A = some ⟨b,off,none⟩ /\ b < w.heap.size /\
     w.cell? ⟨b,off + k * 2,none⟩ = some (.string (bName l k)) /\ w.cell? ⟨b,off + k * 2 + 1,none⟩ = some (.int .i64 (Q1b l k)) /\ Short (bName l k):=by
 obtain ⟨c,⟨A,cap,hv,hn,hcap,hc⟩,h2⟩:=h;refine ⟨A,cap,hv,hn,hcap,fun k hk=>?_⟩;obtain ⟨b,off,hA,h0⟩:=hc (k * 2) (by omega)
 obtain ⟨b',off',hA',h1⟩:=hc (k * 2 + 1) (by omega)
 rw [hA] at hA'; cases hA';obtain ⟨e0,e1,e2⟩:=h2 k hk;simp only [Nat.add_zero] at e0 e1;refine ⟨b,off,hA,World.block_lt_of_cell? w _ h0,?_,?_,?_⟩
 . rw [h0,e0,bName,Q3w _ hk]
 . rw [Nat.add_assoc,h1,e1,Q1b,Q3w _ hk]
 . rw [bName,Q3w _ hk]; exact e2
theorem Q3n.opened {w:World} {v:Value} {l:List Q9i} (h:Q3n w v l) :
    ∃ A cap,v = .slice A l.length cap /\ l.length <= 17592186043904 /\ l.length <= cap /\ ∀ k,k < l.length -> ∃ b off m,A = some ⟨b,off,none⟩ /\ b < w.heap.size /\
     w.cell? ⟨b,off + k * 3,none⟩ = some (.string (cName l k)) /\ w.cell? ⟨b,off + k * 3 + 1,none⟩ = some (.int .i64 (Q1k l k)) /\
     w.cell? ⟨b,off + k * 3 + 2,none⟩ = some m /\ Q0e w m (Q0f l k) /\ Short (cName l k):=by
 obtain ⟨c,⟨A,cap,hv,hn,hcap,hc⟩,h2⟩:=h;refine ⟨A,cap,hv,hn,hcap,fun k hk=>?_⟩;obtain ⟨b,off,hA,h0⟩:=hc (k * 3) (by omega)
 obtain ⟨b',off',hA',h1⟩:=hc (k * 3 + 1) (by omega)
 rw [hA] at hA'; cases hA';obtain ⟨b',off',hA',h3⟩:=hc (k * 3 + 2) (by omega)
 rw [hA] at hA'; cases hA';obtain ⟨e0,e1,e2,e3⟩:=h2 k hk;simp only [Nat.add_zero] at e0 e1;refine ⟨b,off,c (k * 3 + 2),hA,World.block_lt_of_cell? w _ h0,?_,?_,?_,?_,?_⟩
 . rw [h0,e0,cName,Q3w _ hk]
 . rw [Nat.add_assoc,h1,e1,Q1k,Q3w _ hk]
 . rw [Nat.add_assoc,h3]
 . rw [Q0f,Q3w _ hk]; exact e2
 . rw [cName,Q3w _ hk]; exact e3
theorem Q4b.opened {w:World} {v:Value} {l:List Gate} (h:Q4b w v l) :
    ∃ A cap,v = .slice A l.length cap /\ l.length <= 17592186043904 /\ l.length <= cap /\ ∀ k,k < l.length -> ∃ b off m,A = some ⟨b,off,none⟩ /\ b < w.heap.size /\
     w.cell? ⟨b,off + k * 3,none⟩ = some (.string (Q2f l k)) /\ w.cell? ⟨b,off + k * 3 + 1,none⟩ = some (.int .i64 (Q3e l k)) /\
     w.cell? ⟨b,off + k * 3 + 2,none⟩ = some m /\ Q0e w m (Q0m l k) /\ Short (Q2f l k):=by
 obtain ⟨c,⟨A,cap,hv,hn,hcap,hc⟩,h2⟩:=h;refine ⟨A,cap,hv,hn,hcap,fun k hk=>?_⟩;obtain ⟨b,off,hA,h0⟩:=hc (k * 3) (by omega)
 obtain ⟨b',off',hA',h1⟩:=hc (k * 3 + 1) (by omega)
 rw [hA] at hA'; cases hA';obtain ⟨b',off',hA',h3⟩:=hc (k * 3 + 2) (by omega)
 rw [hA] at hA'; cases hA';obtain ⟨e0,e1,e2,e3⟩:=h2 k hk;simp only [Nat.add_zero] at e0 e1;refine ⟨b,off,c (k * 3 + 2),hA,World.block_lt_of_cell? w _ h0,?_,?_,?_,?_,?_⟩
 . rw [h0,e0,Q2f,Q3w _ hk]
 . rw [Nat.add_assoc,h1,e1,Q3e,Q3w _ hk]
 . rw [Nat.add_assoc,h3]
 . rw [Q0m,Q3w _ hk]; exact e2
 . rw [Q2f,Q3w _ hk]; exact e3
def bx (l:List Bool) (k:Nat):Bool:=l.getD k false
theorem Q5g.opened {w:World} {v:Value} {l:List Bool} (h:Q5g w v l) :
    ∃ A cap,v = .slice A l.length cap /\ l.length <= 17592186043904 /\ l.length <= cap /\ ∀ k,k < l.length -> ∃ b off,A = some ⟨b,off,none⟩ /\ b < w.heap.size /\ w.cell? ⟨b,off + k,none⟩ = some (.bool (bx l k)):=by
 obtain ⟨c,⟨A,cap,hv,hn,hcap,hc⟩,h2⟩:=h;refine ⟨A,cap,hv,hn,hcap,fun k hk=>?_⟩;obtain ⟨b,off,hA,h⟩:=hc k (by omega)
 refine ⟨b,off,hA,World.block_lt_of_cell? w _ h,?_⟩;have:=h2 k hk;simp only [Nat.mul_one,Nat.add_zero] at this;rw [h,this,bx,Q3w _ hk]
theorem str_eq {a b:ByteArray} (h:a = b):(a == b) = true:=by subst h; obtain ⟨⟨d⟩⟩:=a; show (Array.mk d == Array.mk d) = true; simp
theorem Q5e {a b:ByteArray} (h:¬ a = b):(a == b) = false:=by
 obtain ⟨a⟩:=a; obtain ⟨b⟩:=b;show (a == b) = false;rw [beq_eq_false_iff_ne];exact fun e=>h (by rw [e])
theorem Ext.cells {a b:World} (h:Ext a b):∀ k o,k < a.heap.size -> b.cell? ⟨k,o,none⟩ = a.cell? ⟨k,o,none⟩:=fun _ _ hk=>Below.cell (p:=⟨_,_,none⟩) h hk
end Go.Tw
namespace Go.Proofs
open Go.RowKit Go.Tw Go.ChangeShapes Go.WideShapes Go.Deep
section
variable {H:Type} {enc:TypeId × Value -> H} {W:World}
def X0j (t:TypeId) (d:DataW H):Prop:=∀ x ∈ d.weights Tryz.prog t,x <= 140737488351232
theorem X7j (b off n:Nat):(⟨b,off,none⟩:Addr).add n = ⟨b,off + n,none⟩:=by
 unfold Addr.add
 split
 . simp_all
 . rfl
theorem Q7j {α:Type} [Inhabited α] {t e:TypeId} {k bts fuel:Nat} {v:Value} {y:DataW H × List MemPlace} {R:World -> (Nat -> Value) -> α -> Prop} (ht:Tryz.prog.underlying t = some (.slice e)) (hc:Tryz.prog.cellsOf e = k) (hk:0 < k) (hb:Tryz.prog.bytesOf e = bts) (h8:8 <= bts)
    (hel:∀ (cs:List Value) (y:DataW H × List MemPlace) (n:Nat),cs.length = k -> DataW.trod enc Tryz.prog W 0 (fun _=>true) true n e cs = some y -> X0j e y.1 -> ∃ x:α,R W (fun i=>cs.getD i undef) x)
    (hloc:∀ (w:World) (c c':Nat -> Value) (x:α),(∀ i,i < k -> c i = c' i) -> R w c x -> R w c' x)
    (h:DataW.trod enc Tryz.prog W 0 (fun _=>true) true fuel t [v] = some y) (hw:X0j t y.1):∃ l:List α,Go.Tw.Rows k R W v l:=by
 rcases open_slice ht h with ⟨hcs,_⟩ | ⟨a,len,cap,m,n,D,Pl,hcs,_,hlc,_,hm,rfl,hx⟩
 . obtain rfl:v = .slice none 0 0:=by simpa using hcs
   exact ⟨[],Go.Tw.Rows.nil _ _ _⟩
 . obtain rfl:v = .slice (some a) len cap:=by simpa using hcs
   simp only [if_true] at hm;subst hm;rw [hc] at hx;have hhead:(len + (m - len)) * bts <= 140737488351232:=by
    have:=hw ((((List.range len).map D).length + ((List.range (m - len)).map fun j=>D (len + j)).length) * Tryz.prog.bytesOf e) (by simp [DataW.weights,ht])
    simpa [hb] using this
   have hm8:m * 8 <= 140737488351232:=by
    have h1:m = len + (m - len):=by omega
    rw [<- h1] at hhead;exact Nat.le_trans (Nat.mul_le_mul_left m h8) hhead
   have hfit:∀ i,i < len -> X0j e (D i):=by
    intro i hi x hx';refine hw x ?_;have e1:∀ (l:List (DataW H)) d,d ∈ l -> x ∈ d.weights Tryz.prog e -> x ∈ DataW.weightsAll Tryz.prog e l:=by
     intro l
     induction l with
     | nil=>intro d hd; cases hd
     | cons d0 l ih =>
       intro d hd hxx;rw [DataW.weightsAll]
       rcases List.mem_cons.1 hd with rfl | hd
       . exact List.mem_append_left _ hxx
       . exact List.mem_append_right _ (ih d hd hxx)
    simp only [DataW.weights,ht];refine List.mem_cons_of_mem _ (List.mem_append_left _ (e1 _ (D i) ?_ hx'));exact List.mem_map.2 ⟨i,List.mem_range.2 hi,rfl⟩
   obtain ⟨f,hf⟩:=choose_lt (α:=List Value) (n:=len) (p:=fun i cs=>(∀ r,r < k -> W.cell? ((a.add (i * k)).add r) = cs[r]?) /\ cs.length = k /\ ∃ x:α,R W (fun j=>cs.getD j undef) x) (fun i hi=>by
    obtain ⟨cs,h1,h2⟩:=hx i (by omega)
    obtain ⟨_,h3,h4⟩:=World.cells?_some h1;exact ⟨cs,h4,h3,hel cs _ n h3 h2 (hfit i hi)⟩)
   obtain ⟨g,hg⟩:=choose_lt (α:=α) (n:=len) (p:=fun i x=>R W (fun j=>(f i).getD j undef) x) (fun i hi=>(hf i hi).2.2)
   have hR:∀ i,i < len -> R W (fun j=>(f ((i * k + j) / k)).getD ((i * k + j) % k) undef) (g i):=fun i hi=>hloc W _ _ _ (fun j hj=>by
    have e1:(i * k + j) / k = i:=by rw [Nat.mul_comm,Nat.mul_add_div hk,Nat.div_eq_of_lt hj,Nat.add_zero]
    have e2:(i * k + j) % k = j:=by rw [Nat.mul_comm,Nat.mul_add_mod,Nat.mod_eq_of_lt hj]
    rw [e1,e2]) (hg i hi)
   refine ⟨(List.range len).map g,fun j=>(f (j / k)).getD (j % k) undef,⟨some a,m,by simp,by simp; omega,by simpa using hlc,fun j hj=>?_⟩,fun j hj=>?_⟩
   . have hj':j < len * k:=by simpa using hj
     have hq:j / k < len:=(Nat.div_lt_iff_lt_mul hk).2 hj';have hr:j % k < k:=Nat.mod_lt _ hk;obtain ⟨h1,h2,_⟩:=hf (j / k) hq;have h3:=h1 (j % k) hr;rw [List.getElem?_eq_getElem (by omega)] at h3
     have hsp:a.spot = none:=by
      obtain ⟨g1,g2,_⟩:=hf 0 (Nat.lt_of_le_of_lt (Nat.zero_le _) hq);have g3:=g1 0 hk;rw [List.getElem?_eq_getElem (by omega)] at g3
      have:=World.cell?_spot g3
      simpa [Addr.add] using this
     obtain ⟨b,off,spot⟩:=a;obtain rfl:spot = none:=hsp;refine ⟨b,off,rfl,?_⟩;have e:(((⟨b,off,none⟩:Addr).add (j / k * k)).add (j % k)) = ⟨b,off + j,none⟩:=by
      rw [X7j,X7j,Nat.add_assoc];have:j / k * k + j % k = j:=by rw [Nat.mul_comm]; exact Nat.div_add_mod j k
      rw [this]
     rw [e] at h3;rw [h3];simp [h2,hr]
   . have hj':j < len:=by simpa using hj
     have:=hR j hj'
     simpa using this
theorem Tryz.c3:Tryz.prog.cellsOf 3 = 1:=by kernel_rfl
theorem Tryz.b3:Tryz.prog.bytesOf 3 = 8:=by kernel_rfl
theorem X3a {fuel:Nat} {v:Value} {y:DataW H × List MemPlace} (h:DataW.trod enc Tryz.prog W 0 (fun _=>true) true fuel 40 [v] = some y) (hw:X0j 40 y.1):∃ l,Q0e W v l :=
 Q7j (α:=Int) Tryz.underlying40 Tryz.c3 (by decide) Tryz.b3 (by decide) (fun cs y n hl h _=>by
  obtain ⟨z,rfl,_,_⟩:=DataW.trod_int Tryz.underlying3 h;exact ⟨z,rfl⟩) (fun _ c c' x hc h=>by rw [<- hc 0 (by decide)]; exact h) h hw
theorem str_of_trod {fuel:Nat} {v:Value} {y:DataW H × List MemPlace} (h:DataW.trod enc Tryz.prog W 0 (fun _=>true) true fuel 9 [v] = some y) (hw:X0j 9 y.1):∃ s,v = .string s /\ Short s:=by
 obtain ⟨s,h1,rfl,_⟩:=DataW.trod_string Tryz.underlying9 h;refine ⟨s,by simpa using h1,?_⟩
 have:=hw s.data.toList.length (by simp [DataW.weights])
 have e:s.data.toList.length = s.size:=Array.length_toList;unfold Short;omega
theorem int_of_trod {fuel:Nat} {v:Value} {y:DataW H × List MemPlace} (h:DataW.trod enc Tryz.prog W 0 (fun _=>true) true fuel 3 [v] = some y):∃ z,v = .int .i64 z:=by
 obtain ⟨z,h1,_,_⟩:=DataW.trod_int Tryz.underlying3 h;exact ⟨z,by simpa using h1⟩
theorem Q3t {t:TypeId} {ts:List TypeId} {d:DataW H} {ds:List (DataW H)} (h:∀ x ∈ DataW.weightsEach Tryz.prog (t :: ts) (d :: ds),x <= 140737488351232):X0j t d /\ ∀ x ∈ DataW.weightsEach Tryz.prog ts ds,x <= 140737488351232:=by
 rw [DataW.weightsEach] at h;exact ⟨fun x hx=>h x (List.mem_append_left _ hx),fun x hx=>h x (List.mem_append_right _ hx)⟩
theorem Tryz.cB:Tryz.prog.cellsOf 48 = 2:=by kernel_rfl
theorem Tryz.cC:Tryz.prog.cellsOf 50 = 3:=by kernel_rfl
theorem Tryz.cG:Tryz.prog.cellsOf 97 = 3:=by kernel_rfl
theorem Tryz.cS:Tryz.prog.cellsOf 9 = 1:=by kernel_rfl
theorem Tryz.cI:Tryz.prog.cellsOf 40 = 1:=by kernel_rfl
theorem Tryz.bB:Tryz.prog.bytesOf 48 = 24:=by kernel_rfl
theorem Tryz.bC:Tryz.prog.bytesOf 50 = 48:=by kernel_rfl
theorem Tryz.bG:Tryz.prog.bytesOf 97 = 48:=by kernel_rfl
theorem X6w {fuel:Nat} {v:Value} {y:DataW H × List MemPlace} (h:DataW.trod enc Tryz.prog W 0 (fun _=>true) true fuel 22 [v] = some y) (hw:X0j 22 y.1):∃ l,Q3m W v l :=
 Q7j (α:=Basic) Tryz.underlying22 Tryz.cB (by decide) Tryz.bB (by decide) (fun cs y n hl h hw=>by
  obtain ⟨y0,y1,m,rfl,_,h0,h1⟩:=trod_struct2 Tryz.underlying48 h
  match cs,hl with
  | [c0,c1],_ =>
    have hw2:∀ x ∈ DataW.weightsEach Tryz.prog [9,3] [y0.1,y1.1],x <= 140737488351232:=fun x hx=>hw x (by simpa [DataW.weights,Tryz.underlying48] using hx)
    obtain ⟨w0,_⟩:=Q3t hw2;have h0':DataW.trod enc Tryz.prog W 0 (fun _=>true) true m 9 [c0] = some y0:=by simpa [Tryz.cS,Tryz.c3] using h0
    have h1':DataW.trod enc Tryz.prog W 0 (fun _=>true) true m 3 [c1] = some y1:=by simpa [Tryz.cS,Tryz.c3] using h1
    obtain ⟨s,rfl,hs⟩:=str_of_trod h0' w0;obtain ⟨z,rfl⟩:=int_of_trod h1';exact ⟨⟨s,z⟩,rfl,rfl,hs⟩)
  (fun _ c c' x hc h=>⟨by rw [<- hc 0 (by decide)]; exact h.1,by rw [<- hc 1 (by decide)]; exact h.2.1,h.2.2⟩) h hw
theorem X6u {fuel:Nat} {v:Value} {y:DataW H × List MemPlace} (h:DataW.trod enc Tryz.prog W 0 (fun _=>true) true fuel 23 [v] = some y) (hw:X0j 23 y.1):∃ l,Q3n W v l :=
 Q7j (α:=Q9i) Tryz.underlying23 Tryz.cC (by decide) Tryz.bC (by decide) (fun cs y n hl h hw=>by
  obtain ⟨y0,y1,y2,m,rfl,_,h0,h1,h2⟩:=trod_struct3 Tryz.underlying50 h
  match cs,hl with
  | [c0,c1,c2],_ =>
    have hw2:∀ x ∈ DataW.weightsEach Tryz.prog [9,3,40] [y0.1,y1.1,y2.1],x <= 140737488351232:=fun x hx=>hw x (by simpa [DataW.weights,Tryz.underlying50] using hx)
    obtain ⟨w0,r0⟩:=Q3t hw2;obtain ⟨_,r1⟩:=Q3t r0;obtain ⟨w2,_⟩:=Q3t r1;have h0':DataW.trod enc Tryz.prog W 0 (fun _=>true) true m 9 [c0] = some y0:=by simpa [Tryz.cS,Tryz.c3,Tryz.cI] using h0
    have h1':DataW.trod enc Tryz.prog W 0 (fun _=>true) true m 3 [c1] = some y1:=by simpa [Tryz.cS,Tryz.c3,Tryz.cI] using h1
    have h2':DataW.trod enc Tryz.prog W 0 (fun _=>true) true m 40 [c2] = some y2:=by simpa [Tryz.cS,Tryz.c3,Tryz.cI] using h2
    obtain ⟨s,rfl,hs⟩:=str_of_trod h0' w0;obtain ⟨z,rfl⟩:=int_of_trod h1';obtain ⟨l,hl⟩:=X3a h2' w2;exact ⟨⟨s,z,l⟩,rfl,rfl,hl,hs⟩)
  (fun _ c c' x hc h=>⟨by rw [<- hc 0 (by decide)]; exact h.1,by rw [<- hc 1 (by decide)]; exact h.2.1,by rw [<- hc 2 (by decide)]; exact h.2.2.1,h.2.2.2⟩) h hw
theorem Y0c {fuel:Nat} {v:Value} {y:DataW H × List MemPlace} (h:DataW.trod enc Tryz.prog W 0 (fun _=>true) true fuel 24 [v] = some y) (hw:X0j 24 y.1):∃ l,Q4b W v l :=
 Q7j (α:=Gate) Tryz.underlying24 Tryz.cG (by decide) Tryz.bG (by decide) (fun cs y n hl h hw=>by
  obtain ⟨y0,y1,y2,m,rfl,_,h0,h1,h2⟩:=trod_struct3 Tryz.underlying97 h
  match cs,hl with
  | [c0,c1,c2],_ =>
    have hw2:∀ x ∈ DataW.weightsEach Tryz.prog [9,3,40] [y0.1,y1.1,y2.1],x <= 140737488351232:=fun x hx=>hw x (by simpa [DataW.weights,Tryz.underlying97] using hx)
    obtain ⟨w0,r0⟩:=Q3t hw2;obtain ⟨_,r1⟩:=Q3t r0;obtain ⟨w2,_⟩:=Q3t r1;have h0':DataW.trod enc Tryz.prog W 0 (fun _=>true) true m 9 [c0] = some y0:=by simpa [Tryz.cS,Tryz.c3,Tryz.cI] using h0
    have h1':DataW.trod enc Tryz.prog W 0 (fun _=>true) true m 3 [c1] = some y1:=by simpa [Tryz.cS,Tryz.c3,Tryz.cI] using h1
    have h2':DataW.trod enc Tryz.prog W 0 (fun _=>true) true m 40 [c2] = some y2:=by simpa [Tryz.cS,Tryz.c3,Tryz.cI] using h2
    obtain ⟨s,rfl,hs⟩:=str_of_trod h0' w0;obtain ⟨z,rfl⟩:=int_of_trod h1';obtain ⟨l,hl⟩:=X3a h2' w2;exact ⟨⟨s,z,l⟩,rfl,rfl,hl,hs⟩)
  (fun _ c c' x hc h=>⟨by rw [<- hc 0 (by decide)]; exact h.1,by rw [<- hc 1 (by decide)]; exact h.2.1,by rw [<- hc 2 (by decide)]; exact h.2.2.1,h.2.2.2⟩) h hw
theorem Tryz.cT:Tryz.prog.cellsOf 26 = 3:=by kernel_rfl
theorem Y0w {b0:Nat} {v:Value} {d:DataW H} {ps:List MemPlace} (hv:Value.okWide Tryz.prog W .any b0 26 v) (h:DataW.Trod enc Tryz.prog W 0 (fun _=>true) true 26 v d ps) (hw:X0j 26 d):∃ t,IsTree W v t:=by
 obtain ⟨cs,rfl,hsz⟩:=okWide_struct Tryz.underlying26 hv;rw [Tryz.cT] at hsz;obtain ⟨c0,c1,c2,rfl⟩:∃ a b c,cs = #[a,b,c]:=by
  obtain ⟨l⟩:=cs
  match l,hsz with
  | [a,b,c],_=>exact ⟨a,b,c,rfl⟩
 obtain ⟨fuel,hf⟩:=h;obtain ⟨y0,y1,y2,m,hx,_,h0,h1,h2⟩:=trod_struct3 Tryz.underlying26 hf;simp only [Prod.mk.injEq] at hx;obtain ⟨rfl,_⟩:=hx;have hw2:∀ x ∈ DataW.weightsEach Tryz.prog [22,23,24] [y0.1,y1.1,y2.1],x <= 140737488351232:=fun x hx=>hw x (by simpa [DataW.weights,Tryz.underlying26] using hx)
 obtain ⟨w0,r0⟩:=Q3t hw2;obtain ⟨w1,r1⟩:=Q3t r0;obtain ⟨w2,_⟩:=Q3t r1;have e0:Tryz.prog.cellsOf 22 = 1:=by kernel_rfl
 have e1:Tryz.prog.cellsOf 23 = 1:=by kernel_rfl
 have e2:Tryz.prog.cellsOf 24 = 1:=by kernel_rfl
 have h0':DataW.trod enc Tryz.prog W 0 (fun _=>true) true m 22 [c0] = some y0:=by simpa [e0,e1,e2,Value.cells] using h0
 have h1':DataW.trod enc Tryz.prog W 0 (fun _=>true) true m 23 [c1] = some y1:=by simpa [e0,e1,e2,Value.cells] using h1
 have h2':DataW.trod enc Tryz.prog W 0 (fun _=>true) true m 24 [c2] = some y2:=by simpa [e0,e1,e2,Value.cells] using h2
 obtain ⟨b,hb⟩:=X6w h0' w0;obtain ⟨c,hc⟩:=X6u h1' w1;obtain ⟨g,hg⟩:=Y0c h2' w2;exact ⟨⟨b,c,g⟩,_,_,_,rfl,⟨hb,hc,hg⟩⟩
end
end Go.Proofs
namespace Go.Tw
open Go.RowKit
def Q0s {α:Type} (w:World) (base:Nat) (e:TypeId) (enc:α -> Value) (v:Value) (l:List α):Prop:=w.ownsRow base e 1 v l.length (l.map enc)
theorem Q0s.nil {α:Type} (w:World) (base:Nat) (e:TypeId) (enc:α -> Value):Q0s w base e enc (.slice none 0 0) []:=World.ownsRow_nil w base e 1
theorem Q0s.row {α:Type} {w:World} {base:Nat} {e:TypeId} {enc:α -> Value} {v:Value} {l:List α} (h:Q0s w base e enc v l) (hl:l.length <= 17592186043904) (c:Nat -> Value)
    (hc:∀ k (hk:k < l.length),c k = enc l[k]):Row w v l.length 1 c:=by
 obtain ⟨_,h2⟩:=h
 rcases h2 with ⟨rfl,h0⟩ | ⟨g,cap,cur,rfl,_,hg,hcap,_,_,htake⟩
 . exact ⟨none,0,by rw [h0],hl,by omega,fun j hj=>by omega⟩
 . refine ⟨some ⟨g,0,none⟩,cap,rfl,hl,hcap,fun j hj=>⟨g,0,rfl,?_⟩⟩
   have hj':j < l.length:=by omega
   rw [Nat.zero_add];have h1:=congrArg (fun l=>l[j]?) htake;simp only [Nat.mul_one,List.getElem?_take,hj',if_true,List.getElem?_map,List.getElem?_eq_getElem hj',Option.map_some] at h1;simp only [World.cell?,hg,hc j hj']
   simpa using h1
theorem Q0s.rows {α:Type} {w:World} {base:Nat} {e:TypeId} {enc:α -> Value} {v:Value} {l:List α} {R:World -> (Nat -> Value) -> α -> Prop} (h:Q0s w base e enc v l) (hl:l.length <= 17592186043904)
    (hR:∀ x ∈ l,R w (fun _=>enc x) x) (hloc:∀ c c' x,c 0 = c' 0 -> R w c x -> R w c' x):Rows 1 R w v l:=by
 refine ⟨fun k=>((l.map enc)[k]?).getD undef,h.row hl _ (fun k hk=>by simp [hk]),fun j hj=>hloc _ _ _ ?_ (hR _ (List.getElem_mem hj))⟩
 simp [hj]
theorem Q0s.ints {w:World} {base:Nat} {e:TypeId} {v:Value} {l:List Int} (h:Q0s w base e (Value.int .i64) v l) (hl:l.length <= 17592186043904):Q0e w v l :=
 h.rows hl (fun _ _=>rfl) (fun _ _ _ h h'=>h ▸ h')
theorem Q0s.bools {w:World} {base:Nat} {e:TypeId} {v:Value} {l:List Bool} (h:Q0s w base e Value.bool v l) (hl:l.length <= 17592186043904):Q5g w v l :=
 h.rows hl (fun _ _=>rfl) (fun _ _ _ h h'=>h ▸ h')
theorem Q0s.below {α:Type} {w w':World} {base:Nat} {e:TypeId} {enc:α -> Value} {v:Value} {l:List α} (h:Q0s w base e enc v l) (hx:Ext w w'):Q0s w' base e enc v l:=by
 obtain ⟨h1,h2⟩:=h;refine ⟨h1,?_⟩
 rcases h2 with h2 | ⟨g,cap,cur,hv,hb,hg,r⟩
 . exact .inl h2
 . refine .inr ⟨g,cap,cur,hv,hb,?_,r⟩
   rw [Below.block hx g (Array.getElem?_eq_some_iff.1 hg).1]; exact hg
theorem Q0s.snoc {α:Type} {w:World} {base:Nat} {e:TypeId} {enc:α -> Value} {v:Value} {l:List α} {x:α} (h:w.ownsRow base e 1 v (l.length + 1) (l.map enc ++ [enc x])):Q0s w base e enc v (l ++ [x]):=by
 unfold Q0s; simpa using h
theorem Q3u {w wr w':World} {v:Value} {base:Nat} {e:TypeId} {n size:Nat} {xs:List Value} {o:Obj} (hx:Ext w wr) (hown:wr.ownsRow base e size v n xs) (hb:w.heap.size <= base) (hg:(wr.alloc o).grownBy w' v.ownBlock):Ext w w' :=
 Below.grown (hx.alloc o) hg (by have:=hx.size; simp; omega) (fun k hk=>by have:=(hown.lt k hk).1; omega)
theorem Q5k (w:World) (x:Value) (e:TypeId):∀ j u,[x][j]? = some u -> (w.alloc (.cells #[x] e)).cell? ((⟨w.heap.size,0,none⟩:Addr).add j) = some u:=by
 intro j u h;cases j with
 | zero =>
   simp only [List.getElem?_cons_zero,Option.some.injEq] at h;subst h;show (w.alloc (.cells #[x] e)).cell? ⟨w.heap.size,0,none⟩ = some x;rw [World.cell?_alloc_at _ _ _ _ rfl];rfl
 | succ j=>simp at h
theorem Q3k {l:List Int} {k:Nat} (h:k < l.length):l.drop k = ix l k :: l.drop (k + 1):=by rw [Q6t h]; exact List.drop_eq_getElem_cons h
end Go.Tw
namespace Go.Tw
def Q0g:List Int -> Int
 | []=>0
 | x :: l=>if x = 0 then Q0g l else x
def Q0k (x a b:Int):Int:=if x < a ∨ b < x then 3 else 0
def X7e:List Int -> Bool
 | x :: y :: l=>decide (x < y) && X7e (y :: l)
 | _=>true
def Z1s (l:List Int) (n:Int):Bool:=l.any fun x=>decide (x < 0 ∨ n <= x)
def Q1p (l:List Int) (n:Int):Int:=if Z1s l n then 10 else if X7e l then 0 else 11
def Q2r (l:List Int) (n:Int):Int:=if l = [] then 12 else Q1p l n
def Q2i (c:UInt8):Bool:=(decide (97 <= c) && decide (c <= 122)) || (decide (65 <= c) && decide (c <= 90))
def Q4m (c:UInt8):Bool:=c == 95 || (decide (48 <= c) && decide (c <= 57))
def nameB (s:ByteArray):Bool:=match s.data.toList with
 | []=>false
 | c :: l=>Q2i c && l.all (fun c=>Q2i c || Q4m c) && decide (l.length < 24)
def Q3f (s:ByteArray):Int:=if nameB s then 0 else 8
def X0g:ByteArray:=⟨#[97,110,100]⟩
def sOr:ByteArray:=⟨#[111,114]⟩
def Q6b:ByteArray:=⟨#[118,111,116,101]⟩
namespace Tree
def size (t:Tree):Nat:=t.basics.length + t.causes.length
def nodes (t:Tree):Nat:=t.basics.length + t.gates.length
def nameAt (t:Tree) (i:Nat):ByteArray:=if i < t.basics.length then bName t.basics i else cName t.causes (i - t.basics.length)
def Q1g (t:Tree) (i:Nat):Int:=if i < t.basics.length then Q1b t.basics i else Q1k t.causes (i - t.basics.length)
def Q8r (t:Tree) (i:Nat):Bool:=(List.range i).any fun k=>t.nameAt k == t.nameAt i
def Q1f (t:Tree) (i:Nat):Int :=
 Q0g [Q3f (t.nameAt i),Q0k (t.Q1g i) 0 16,if t.Q8r i then 9 else 0,if i < t.basics.length then 0 else Q2r (Q0f t.causes (i - t.basics.length)) t.basics.length]
end Tree
def Q8j (s:ByteArray):Bool:=s == X0g || s == sOr || s == Q6b
def X0x (kind:ByteArray) (need:Int) (n:Nat):Int:=if kind = Q6b then Q0k need 1 n else Q0k need 0 0
def Q8n (kind:ByteArray) (need:Int) (inputs:List Int) (nodes:Int):Int :=
 Q0g [if Q8j kind then 0 else 13,if 12 < inputs.length then 5 else 0,Q2r inputs nodes,X0x kind need inputs.length]
namespace Tree
def Q1z (t:Tree) (i:Nat):Int:=Q8n (Q2f t.gates i) (Q3e t.gates i) (Q0m t.gates i) ((t.basics.length:Int) + i)
def err (t:Tree):Int :=
 if t.basics.length = 0 ∨ t.gates.length = 0 then 12 else if 12 < t.size ∨ 32 < t.gates.length then 5 else
 Q0g ((List.range t.size).map t.Q1f ++ (List.range t.gates.length).map t.Q1z)
def Y9q (t:Tree) (ev:Nat -> Bool) (i:Nat):Bool:=ev i || (List.range t.causes.length).any fun k=>ev (t.basics.length + k) && has (Q0f t.causes k) i
end Tree
def Q6o (kind:ByteArray) (need:Int) (n:Nat):Int:=if kind = X0g then n else if kind = sOr then 1 else need
def failing (out:List Bool) (inputs:List Int):Nat:=inputs.countP fun x=>bx out x.toNat
def Z7x (out:List Bool) (kind:ByteArray) (need:Int) (inputs:List Int):Bool:=decide (Q6o kind need inputs.length <= failing out inputs)
namespace Tree
def X2h (t:Tree) (ev:Nat -> Bool):List Bool:=(List.range t.basics.length).map (t.Y9q ev)
def Q6a (t:Tree) (ev:Nat -> Bool):Nat -> List Bool
 | 0=>t.X2h ev
 | n + 1=>t.Q6a ev n ++ [Z7x (t.Q6a ev n) (Q2f t.gates n) (Q3e t.gates n) (Q0m t.gates n)]
def states (t:Tree) (ev:Nat -> Bool):List Bool:=t.Q6a ev t.gates.length
def fails (t:Tree) (ev:Nat -> Bool):Bool:=bx (t.states ev) (t.nodes - 1)
end Tree
def evL (l:List Int) (i:Nat):Bool:=has l i
def evN (s:Nat) (i:Nat):Bool:=s.testBit i
def bitsOf (s:Nat):List Int:=((List.range 16).filter (s.testBit ·)).map Int.ofNat
def others (n:Nat) (l:List Int):List Int:=((List.range n).map Int.ofNat).filter fun x=>!has l x
def without (l:List Int) (k:Nat):List Int:=l.take k ++ l.drop (k + 1)
namespace Tree
def Q0b (t:Tree):List Int:=(List.range t.size).map t.Q1g
def setB (t:Tree) (l:List Int) (paths:Bool):Bool:=if paths then !t.fails (evL (others t.size l)) else t.fails (evL l)
def Q7f (t:Tree) (l:List Int) (paths:Bool):Bool:=t.setB l paths && !(List.range l.length).any fun k=>t.setB (without l k) paths
end Tree
def Z0e:List Int -> List Int -> Bool
 | x :: l,y :: m=>if x = y then Z0e l m else decide (x < y)
 | _,_=>false
def Q8y (a b:List Int):Bool:=if a.length = b.length then Z0e a b else decide (a.length < b.length)
def Q5m (l:List Int) (out:List (List Int)):Nat -> Nat
 | 0=>0
 | n + 1=>if Q8y l (out.getD n []) then Q5m l out n else n + 1
def Q5s (l:List Int) (out:List (List Int)):List (List Int):=out.take (Q5m l out out.length) ++ [l] ++ out.drop (Q5m l out out.length)
namespace Tree
def sets (t:Tree) (paths:Bool):List (List Int):=(List.range (2 ^ t.size)).foldl (fun out s=>if t.Q7f (bitsOf s) paths then Q5s (bitsOf s) out else out) []
def single (t:Tree):List Int:=((List.range t.size).map Int.ofNat).filter fun x=>t.fails (evL [x])
end Tree
namespace Tree
end Tree
def Q3q (n:Nat) (l:List (List Int)):Int:=if 1024 < l.length then 5 else Q0g (l.map fun x=>Q1p x n)
def factor (c:List Int) (s j:Nat):Int:=if s.testBit j then ix c j else 16 - ix c j
def Q7k (c:List Int) (s:Nat):Nat -> Int
 | 0=>1
 | j + 1=>Q7k c s j * factor c s j
def partOf (c:List Int) (s:Nat):Int:=Q7k c s c.length
namespace Tree
def Y5d (t:Tree) (c:List Int):Nat -> Int
 | 0=>0
 | s + 1=>t.Y5d c s + if t.fails (evN s) then partOf c s else 0
def weight (t:Tree) (c:List Int):Int:=t.Y5d c (2 ^ t.size)
end Tree
structure Ratio where
 num:Int
 den:Int
deriving DecidableEq
def lowest (a b:Int):Ratio:=⟨a / (Int.gcd a b:Int),b / (Int.gcd a b:Int)⟩
def Q1u (c:List Int) (l:List Int) (n:Int):List Int:=(List.range c.length).map fun (i:Nat)=>if has l i then n else ix c i
end Go.Tw
namespace Go.Proofs
open Go.RowKit Go.Tw
theorem Tryz.info3:(Tryz.prog.info? 3).map (fun i=>(i.zero,i.size,i.bytes)) = some (some (.int .i64 0),1,8):=by kernel_rfl
theorem Z0y (w:World) (v:Value) (l:List Int) (hv:Q0e w v l) :
    Calls Tryz.prog 11 #[v] w fun e w'=>e = .returned (.int .i64 (Q0g l)) /\ w = w':=by
 obtain ⟨A,cap,rfl,hl,hcap,hc⟩:=hv.opened;clear hv;go_enter Tryz.func11,Tryz.ntmps11;go_wp2
 go_loop [3] (fun i=>∃ k:Nat,k <= l.length /\ i = .int .i64 k /\ Q0g (l.drop k) = Q0g l) (fun i=>l.length - (intOf i).toNat)
 case atStart=>exact ⟨0,Nat.zero_le _,rfl,rfl⟩
 case round =>
  obtain ⟨k,hk,rfl,hr⟩:=hrel;have HR:=Lib.hid hr; clear hr
  by_cases hlt:k < l.length
  . obtain ⟨b,off,rfl,hcell⟩:=hc k hlt
    clear hc
    by_cases hx:ix l k = 0
    . have HX:=Lib.hid hx
      have hx1:(ix l k != 0) = false:=by simp [hx]
      clear hx;go_wp2;go_round
      case rel=>exact ⟨k + 1,by omega,by go_num,by rw [<- HR.out,Q3k hlt,Q0g,if_pos HX.out]⟩
      case measure=>simp [intOf]; omega
    . have hx1:(ix l k != 0) = true:=by simp [hx]
      have HX:=Lib.hid hx; clear hx;go_wp2;go_ret;exact ⟨Q0y (by rw [<- HR.out,Q3k hlt,Q0g,if_neg HX.out]),rfl⟩
  . clear hc
    go_wp2;go_ret;exact ⟨Q0y (by rw [<- HR.out,List.drop_eq_nil_of_le (by omega)]; rfl),rfl⟩
theorem Q7o (w:World) (x a b:Int) :
    Calls Tryz.prog 65 #[.int .i64 x,.int .i64 a,.int .i64 b] w fun e w'=>e = .returned (.int .i64 (Q0k x a b)) /\ w = w':=by
 unfold Q0k
 by_cases h1:x < a
 . rw [if_pos (.inl h1)]
   go_enter Tryz.func65,Tryz.ntmps65;go_wp2;go_ret;exact ⟨rfl,rfl⟩
 . by_cases h2:b < x
   . rw [if_pos (.inr h2)]
     go_enter Tryz.func65,Tryz.ntmps65;go_wp2;go_ret;exact ⟨rfl,rfl⟩
   . rw [if_neg (by omega)]
     go_enter Tryz.func65,Tryz.ntmps65;go_wp2;go_ret;exact ⟨rfl,rfl⟩
end Go.Proofs
namespace Go.Proofs
open Go.RowKit Go.Tw
theorem X9q (w:World) (v:Value) (t:Tree) (ht:IsTree w v t) :
    Calls Tryz.prog 18 #[v] w fun e w'=>e = .returned (.int .i64 t.size) /\ Ext w w':=by
 obtain ⟨a,b,c,rfl,h3⟩:=ht;obtain ⟨A,cap,rfl,hl,hcap,hc⟩:=h3.basics.opened;obtain ⟨A',cap',rfl,hl',hcap',hc'⟩:=h3.causes.opened;clear h3 hc hc';go_enter Tryz.func18,Tryz.ntmps18;go_wp2;go_ret;exact ⟨Q0y (by unfold Tree.size; omega),(Ext.refl _).alloc _⟩
theorem name_any (w:World) (v:Value) (t:Tree) (k:Nat) (ht:IsTree w v t) (hk:k < t.size) :
    Calls Tryz.prog 47 #[v,.int .i64 k] w fun e w'=>e = .returned (.string (t.nameAt k)) /\ Ext w w':=by
 unfold Tree.size at hk;obtain ⟨a,b,c,rfl,h3⟩:=ht;obtain ⟨A,cap,rfl,hl,hcap,hc⟩:=h3.basics.opened;obtain ⟨A',cap',rfl,hl',hcap',hc'⟩:=h3.causes.opened;clear h3
 by_cases hlt:k < t.basics.length
 . obtain ⟨b,off,rfl,hb,h0,h1,h2⟩:=hc k hlt
   clear hc hc' h2;go_enter Tryz.func47,Tryz.ntmps47;go_wp2;go_ret;exact ⟨Z1f (by unfold Tree.nameAt; rw [if_pos hlt]),(Ext.refl _).alloc _⟩
 . obtain ⟨j,rfl⟩:∃ j,k = t.basics.length + j:=⟨k - t.basics.length,by omega⟩
   obtain ⟨b,off,m,rfl,hb,h0,h1,h2,h3⟩:=hc' j (by omega)
   clear hc hc' h2;go_enter Tryz.func47,Tryz.ntmps47;go_wp2;go_ret;exact ⟨Z1f (by unfold Tree.nameAt; rw [if_neg hlt,Nat.add_sub_cancel_left]),(Ext.refl _).alloc _⟩
theorem Y7y (w:World) (v:Value) (t:Tree) (k:Nat) (ht:IsTree w v t) (hk:k < t.size) :
    Calls Tryz.prog 66 #[v,.int .i64 k] w fun e w'=>e = .returned (.int .i64 (t.Q1g k)) /\ Ext w w':=by
 unfold Tree.size at hk;obtain ⟨a,b,c,rfl,h3⟩:=ht;obtain ⟨A,cap,rfl,hl,hcap,hc⟩:=h3.basics.opened;obtain ⟨A',cap',rfl,hl',hcap',hc'⟩:=h3.causes.opened;clear h3
 by_cases hlt:k < t.basics.length
 . obtain ⟨b,off,rfl,hb,h0,h1,h2⟩:=hc k hlt
   clear hc hc' h2;go_enter Tryz.func66,Tryz.ntmps66;go_wp2;go_ret;exact ⟨Q0y (by unfold Tree.Q1g; rw [if_pos hlt]),(Ext.refl _).alloc _⟩
 . obtain ⟨j,rfl⟩:∃ j,k = t.basics.length + j:=⟨k - t.basics.length,by omega⟩
   obtain ⟨b,off,m,rfl,hb,h0,h1,h2,h3⟩:=hc' j (by omega)
   clear hc hc' h2;go_enter Tryz.func66,Tryz.ntmps66;go_wp2;go_ret;exact ⟨Q0y (by unfold Tree.Q1g; rw [if_neg hlt,Nat.add_sub_cancel_left]),(Ext.refl _).alloc _⟩
def Q7g (a n:Nat):Nat:=a ^ n
end Go.Proofs
