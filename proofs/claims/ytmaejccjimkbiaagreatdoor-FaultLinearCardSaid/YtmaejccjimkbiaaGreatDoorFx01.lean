/- What values read as: slices as lists, structs as structures; all of it is kept where memory only grows. Trees as data, and what the values of the Go types read as. What the arguments of a law read as: trees, lists of numbers, lists of lists. Slices that a call makes and appends to, read as lists. -/
import Derived.WalkKit
import Derived.WalkSpells
import Derived.WalkLawsBesides
import Derived.Lib.Hide
import Derived.Below
import Derived.Carry
import Derived.Test.YtmaejccjimkbiaaGreatDoorProg
import Derived.Deep.Slices
import Derived.Deep.Strs
import Derived.ProofKit
import Derived.SizedLaws
import Derived.Laws.AppendOwn
import Derived.Deep.DeepMust
import Derived.Deep.Light
set_option linter.unusedVariables false
set_option linter.unusedSimpArgs false
set_option linter.constructorNameAsVariable false
namespace Go.Tw
open Go.RowKit
def Ext (w w':World):Prop:=Below w.heap.size w w'
theorem Ext.refl (w:World):Ext w w:=Below.refl _ _
theorem Ext.trans {a b c:World} (h:Ext a b) (k:Ext b c):Ext a c:=Below.trans h (Below.mono k h.size)
theorem Ext.drew {a b:World} (h:Ext a b):Ext a b.drew:=Below.drew h
theorem Ext.alloc {a b:World} (h:Ext a b) (o:Obj):Ext a (b.alloc o):=Below.alloc h h.size o
theorem Ext.below {a b:World} (h:Ext a b) {n:Nat} (hn:n ≤ a.heap.size):Below n a b:=Below.mono h hn
theorem Ext.cell {a b:World} (h:Ext a b) {p:Addr} {v:Value} (hc:a.cell? p = some v):b.cell? p = some v :=
 (Below.cell h (World.block_lt_of_cell? a p hc)).trans hc
theorem Ext.size {a b:World} (h:Ext a b):a.heap.size ≤ b.heap.size:=Below.size h
def ix (l:List Int) (k:Nat):Int:=l.getD k 0
theorem Q8m {l:List Int} {k:Nat} (h:k < l.length):ix l k = l[k]:=by simp [ix,h]
def Row (w:World) (v:Value) (n sz:Nat) (c:Nat → Value):Prop :=
 ∃ A cap,v = .slice A n cap ∧ n ≤ 17592186043904 ∧ n ≤ cap ∧ ∀ j,j < n * sz → ∃ b off,A = some ⟨b,off,none⟩ ∧ w.cell? ⟨b,off + j,none⟩ = some (c j)
theorem Row.ext {w w':World} {v:Value} {n sz:Nat} {c:Nat → Value} (h:Row w v n sz c) (hx:Ext w w'):Row w' v n sz c:=by
 obtain ⟨A,cap,hv,hn,hcap,hc⟩:=h;exact ⟨A,cap,hv,hn,hcap,fun j hj=>let ⟨b,off,hA,h⟩:=hc j hj; ⟨b,off,hA,hx.cell h⟩⟩
def Rows {α:Type} (sz:Nat) (R:World → (Nat → Value) → α → Prop) (w:World) (v:Value) (l:List α):Prop :=
 ∃ c,Row w v l.length sz c ∧ ∀ j (h:j < l.length),R w (fun i=>c (j * sz + i)) l[j]
theorem Rows.ext {α:Type} {sz:Nat} {R:World → (Nat → Value) → α → Prop} (hR:∀ w w' c x,Ext w w' → R w c x → R w' c x) {w w':World} {v:Value} {l:List α}
    (h:Rows sz R w v l) (hx:Ext w w'):Rows sz R w' v l:=by
 obtain ⟨c,h1,h2⟩:=h;exact ⟨c,h1.ext hx,fun j hj=>hR _ _ _ _ hx (h2 j hj)⟩
theorem Rows.nil {α:Type} (sz:Nat) (R:World → (Nat → Value) → α → Prop) (w:World):Rows sz R w (.slice none 0 0) [] :=
 ⟨fun _=>undef,⟨none,0,rfl,by simp,by simp,fun j hj=>by simp at hj⟩,fun j hj=>by simp at hj⟩
def Q0f:World → Value → List Int → Prop:=Rows 1 fun _ c x=>c 0 = .int .i64 x
def Q4s:World → Value → List Bool → Prop:=Rows 1 fun _ c x=>c 0 = .bool x
def X5h:World → Value → List ByteArray → Prop:=Rows 1 fun _ c x=>c 0 = .string x
def Q1w:World → Value → List (List Int) → Prop:=Rows 1 fun w c x=>Q0f w (c 0) x
theorem Q0f.ext {w w':World} {v:Value} {l:List Int} (h:Q0f w v l) (hx:Ext w w'):Q0f w' v l:=Rows.ext (fun _ _ _ _ _ h=>h) h hx
theorem Q4s.ext {w w':World} {v:Value} {l:List Bool} (h:Q4s w v l) (hx:Ext w w'):Q4s w' v l:=Rows.ext (fun _ _ _ _ _ h=>h) h hx
theorem X5h.ext {w w':World} {v:Value} {l:List ByteArray} (h:X5h w v l) (hx:Ext w w'):X5h w' v l:=Rows.ext (fun _ _ _ _ _ h=>h) h hx
theorem Q1w.ext {w w':World} {v:Value} {l:List (List Int)} (h:Q1w w v l) (hx:Ext w w'):Q1w w' v l:=Rows.ext (fun _ _ _ _ hx h=>h.ext hx) h hx
theorem Q0f.opened {w:World} {v:Value} {l:List Int} (h:Q0f w v l) :
    ∃ A cap,v = .slice A l.length cap ∧ l.length ≤ 17592186043904 ∧ l.length ≤ cap ∧ ∀ k,k < l.length → ∃ b off,A = some ⟨b,off,none⟩ ∧ w.cell? ⟨b,off + k,none⟩ = some (.int .i64 (ix l k)):=by
 obtain ⟨c,⟨A,cap,hv,hn,hcap,hc⟩,h2⟩:=h;refine ⟨A,cap,hv,hn,hcap,fun k hk=>?_⟩;obtain ⟨b,off,hA,h⟩:=hc k (by omega)
 refine ⟨b,off,hA,?_⟩;have:=h2 k hk;simp only [Nat.mul_one,Nat.add_zero] at this;rw [h,this,Q8m hk]
end Go.Tw
namespace Go.Tw
open Go.RowKit
structure Basic where
 name:ByteArray
 chance:Int
structure X0o where
 name:ByteArray
 chance:Int
 members:List Int
structure Gate where
 kind:ByteArray
 need:Int
 inputs:List Int
structure Tree where
 basics:List Basic
 causes:List X0o
 gates:List Gate
instance:Inhabited Basic:=⟨⟨⟨#[]⟩,0⟩⟩
instance:Inhabited X0o:=⟨⟨⟨#[]⟩,0,[]⟩⟩
instance:Inhabited Gate:=⟨⟨⟨#[]⟩,0,[]⟩⟩
def Short (s:ByteArray):Prop:=s.size ≤ 140737488355328
def Y0q (_:World) (c:Nat → Value) (x:Basic):Prop:=c 0 = .string x.name ∧ c 1 = .int .i64 x.chance ∧ Short x.name
def X9d (w:World) (c:Nat → Value) (x:X0o):Prop:=c 0 = .string x.name ∧ c 1 = .int .i64 x.chance ∧ Q0f w (c 2) x.members ∧ Short x.name
def Y9j (w:World) (c:Nat → Value) (x:Gate):Prop:=c 0 = .string x.kind ∧ c 1 = .int .i64 x.need ∧ Q0f w (c 2) x.inputs ∧ Short x.kind
theorem Y0q.ext (w w':World) (c:Nat → Value) (x:Basic) (_:Ext w w') (h:Y0q w c x):Y0q w' c x:=h
theorem X9d.ext (w w':World) (c:Nat → Value) (x:X0o) (hx:Ext w w') (h:X9d w c x):X9d w' c x:=⟨h.1,h.2.1,h.2.2.1.ext hx,h.2.2.2⟩
theorem Y9j.ext (w w':World) (c:Nat → Value) (x:Gate) (hx:Ext w w') (h:Y9j w c x):Y9j w' c x:=⟨h.1,h.2.1,h.2.2.1.ext hx,h.2.2.2⟩
def Q3k:World → Value → List Basic → Prop:=Rows 2 Y0q
def Q3w:World → Value → List X0o → Prop:=Rows 3 X9d
def Q4m:World → Value → List Gate → Prop:=Rows 3 Y9j
theorem Q3k.ext {w w':World} {v:Value} {l:List Basic} (h:Q3k w v l) (hx:Ext w w'):Q3k w' v l:=Rows.ext Y0q.ext h hx
theorem Q3w.ext {w w':World} {v:Value} {l:List X0o} (h:Q3w w v l) (hx:Ext w w'):Q3w w' v l:=Rows.ext X9d.ext h hx
theorem Q4m.ext {w w':World} {v:Value} {l:List Gate} (h:Q4m w v l) (hx:Ext w w'):Q4m w' v l:=Rows.ext Y9j.ext h hx
structure Q6u (w:World) (a b c:Value) (t:Tree):Prop where
 basics:Q3k w a t.basics
 causes:Q3w w b t.causes
 gates:Q4m w c t.gates
theorem Q6u.ext {w w':World} {a b c:Value} {t:Tree} (h:Q6u w a b c t) (hx:Ext w w'):Q6u w' a b c t:=⟨h.basics.ext hx,h.causes.ext hx,h.gates.ext hx⟩
def IsTree (w:World) (v:Value) (t:Tree):Prop:=∃ a b c,v = .agg #[a,b,c] ∧ Q6u w a b c t
theorem IsTree.ext {w w':World} {v:Value} {t:Tree} (h:IsTree w v t) (hx:Ext w w'):IsTree w' v t:=let ⟨a,b,c,hv,h3⟩:=h; ⟨a,b,c,hv,h3.ext hx⟩
def bName (l:List Basic) (k:Nat):ByteArray:=(l.getD k default).name
def Q1l (l:List Basic) (k:Nat):Int:=(l.getD k default).chance
def cName (l:List X0o) (k:Nat):ByteArray:=(l.getD k default).name
def Q1d (l:List X0o) (k:Nat):Int:=(l.getD k default).chance
def Q0c (l:List X0o) (k:Nat):List Int:=(l.getD k default).members
def Q2c (l:List Gate) (k:Nat):ByteArray:=(l.getD k default).kind
def Q2x (l:List Gate) (k:Nat):Int:=(l.getD k default).need
def Q0l (l:List Gate) (k:Nat):List Int:=(l.getD k default).inputs
theorem Q1f {k:IntKind} {a b:Int} (h:a = b):Ending.returned (.int k a) = .returned (.int k b):=by rw [h]
theorem Q1q {a b:Bool} (h:a = b):Ending.returned (.bool a) = .returned (.bool b):=by rw [h]
theorem Y7l {a b:ByteArray} (h:a = b):Ending.returned (.string a) = .returned (.string b):=by rw [h]
def has (l:List Int) (x:Int):Bool:=l.contains x
theorem X3z (y:Int) (l:List Int) (x:Int):has (y :: l) x = (y == x || has l x):=by
 unfold has; rw [List.contains_cons,Bool.beq_comm]
theorem X8n {l:List Int} {x:Int}:has l x = true ↔ x ∈ l:=by simp [has]
theorem Q3u {α:Type} {l:List α} {k:Nat} (d:α) (h:k < l.length):l.getD k d = l[k]:=by simp [h]
theorem Q3k.opened {w:World} {v:Value} {l:List Basic} (h:Q3k w v l) :
    ∃ A cap,v = .slice A l.length cap ∧ l.length ≤ 17592186043904 ∧ l.length ≤ cap ∧ ∀ k,k < l.length → ∃ b off,A = some ⟨b,off,none⟩ ∧ b < w.heap.size ∧
     w.cell? ⟨b,off + k * 2,none⟩ = some (.string (bName l k)) ∧ w.cell? ⟨b,off + k * 2 + 1,none⟩ = some (.int .i64 (Q1l l k)) ∧ Short (bName l k):=by
 obtain ⟨c,⟨A,cap,hv,hn,hcap,hc⟩,h2⟩:=h;refine ⟨A,cap,hv,hn,hcap,fun k hk=>?_⟩;obtain ⟨b,off,hA,h0⟩:=hc (k * 2) (by omega)
 obtain ⟨b',off',hA',h1⟩:=hc (k * 2 + 1) (by omega)
 rw [hA] at hA'; cases hA';obtain ⟨e0,e1,e2⟩:=h2 k hk;simp only [Nat.add_zero] at e0 e1;refine ⟨b,off,hA,World.block_lt_of_cell? w _ h0,?_,?_,?_⟩
 · rw [h0,e0,bName,Q3u _ hk]
 · rw [Nat.add_assoc,h1,e1,Q1l,Q3u _ hk]
 · rw [bName,Q3u _ hk]; exact e2
theorem Q3w.opened {w:World} {v:Value} {l:List X0o} (h:Q3w w v l) :
    ∃ A cap,v = .slice A l.length cap ∧ l.length ≤ 17592186043904 ∧ l.length ≤ cap ∧ ∀ k,k < l.length → ∃ b off m,A = some ⟨b,off,none⟩ ∧ b < w.heap.size ∧
     w.cell? ⟨b,off + k * 3,none⟩ = some (.string (cName l k)) ∧ w.cell? ⟨b,off + k * 3 + 1,none⟩ = some (.int .i64 (Q1d l k)) ∧
     w.cell? ⟨b,off + k * 3 + 2,none⟩ = some m ∧ Q0f w m (Q0c l k) ∧ Short (cName l k):=by
 obtain ⟨c,⟨A,cap,hv,hn,hcap,hc⟩,h2⟩:=h;refine ⟨A,cap,hv,hn,hcap,fun k hk=>?_⟩;obtain ⟨b,off,hA,h0⟩:=hc (k * 3) (by omega)
 obtain ⟨b',off',hA',h1⟩:=hc (k * 3 + 1) (by omega)
 rw [hA] at hA'; cases hA';obtain ⟨b',off',hA',h3⟩:=hc (k * 3 + 2) (by omega)
 rw [hA] at hA'; cases hA';obtain ⟨e0,e1,e2,e3⟩:=h2 k hk;simp only [Nat.add_zero] at e0 e1;refine ⟨b,off,c (k * 3 + 2),hA,World.block_lt_of_cell? w _ h0,?_,?_,?_,?_,?_⟩
 · rw [h0,e0,cName,Q3u _ hk]
 · rw [Nat.add_assoc,h1,e1,Q1d,Q3u _ hk]
 · rw [Nat.add_assoc,h3]
 · rw [Q0c,Q3u _ hk]; exact e2
 · rw [cName,Q3u _ hk]; exact e3
theorem Q4m.opened {w:World} {v:Value} {l:List Gate} (h:Q4m w v l) :
    ∃ A cap,v = .slice A l.length cap ∧ l.length ≤ 17592186043904 ∧ l.length ≤ cap ∧ ∀ k,k < l.length → ∃ b off m,A = some ⟨b,off,none⟩ ∧ b < w.heap.size ∧
     w.cell? ⟨b,off + k * 3,none⟩ = some (.string (Q2c l k)) ∧ w.cell? ⟨b,off + k * 3 + 1,none⟩ = some (.int .i64 (Q2x l k)) ∧
     w.cell? ⟨b,off + k * 3 + 2,none⟩ = some m ∧ Q0f w m (Q0l l k) ∧ Short (Q2c l k):=by
 obtain ⟨c,⟨A,cap,hv,hn,hcap,hc⟩,h2⟩:=h;refine ⟨A,cap,hv,hn,hcap,fun k hk=>?_⟩;obtain ⟨b,off,hA,h0⟩:=hc (k * 3) (by omega)
 obtain ⟨b',off',hA',h1⟩:=hc (k * 3 + 1) (by omega)
 rw [hA] at hA'; cases hA';obtain ⟨b',off',hA',h3⟩:=hc (k * 3 + 2) (by omega)
 rw [hA] at hA'; cases hA';obtain ⟨e0,e1,e2,e3⟩:=h2 k hk;simp only [Nat.add_zero] at e0 e1;refine ⟨b,off,c (k * 3 + 2),hA,World.block_lt_of_cell? w _ h0,?_,?_,?_,?_,?_⟩
 · rw [h0,e0,Q2c,Q3u _ hk]
 · rw [Nat.add_assoc,h1,e1,Q2x,Q3u _ hk]
 · rw [Nat.add_assoc,h3]
 · rw [Q0l,Q3u _ hk]; exact e2
 · rw [Q2c,Q3u _ hk]; exact e3
def bx (l:List Bool) (k:Nat):Bool:=l.getD k false
theorem Q4s.opened {w:World} {v:Value} {l:List Bool} (h:Q4s w v l) :
    ∃ A cap,v = .slice A l.length cap ∧ l.length ≤ 17592186043904 ∧ l.length ≤ cap ∧ ∀ k,k < l.length → ∃ b off,A = some ⟨b,off,none⟩ ∧ b < w.heap.size ∧ w.cell? ⟨b,off + k,none⟩ = some (.bool (bx l k)):=by
 obtain ⟨c,⟨A,cap,hv,hn,hcap,hc⟩,h2⟩:=h;refine ⟨A,cap,hv,hn,hcap,fun k hk=>?_⟩;obtain ⟨b,off,hA,h⟩:=hc k (by omega)
 refine ⟨b,off,hA,World.block_lt_of_cell? w _ h,?_⟩;have:=h2 k hk;simp only [Nat.mul_one,Nat.add_zero] at this;rw [h,this,bx,Q3u _ hk]
theorem str_eq {a b:ByteArray} (h:a = b):(a == b) = true:=by subst h; obtain ⟨⟨d⟩⟩:=a; show (Array.mk d == Array.mk d) = true; simp
theorem Q5k {a b:ByteArray} (h:¬ a = b):(a == b) = false:=by
 obtain ⟨a⟩:=a; obtain ⟨b⟩:=b;show (a == b) = false;rw [beq_eq_false_iff_ne];exact fun e=>h (by rw [e])
theorem Ext.cells {a b:World} (h:Ext a b):∀ k o,k < a.heap.size → b.cell? ⟨k,o,none⟩ = a.cell? ⟨k,o,none⟩:=fun _ _ hk=>Below.cell (p:=⟨_,_,none⟩) h hk
end Go.Tw
namespace Go.Proofs
open Go.RowKit Go.Tw Go.ChangeShapes Go.WideShapes Go.Deep
section
variable {H:Type} {enc:TypeId × Value → H} {W:World}
def X0h (t:TypeId) (d:DataW H):Prop:=∀ x ∈ d.weights Tryz.prog t,x ≤ 140737488351232
theorem X6v (b off n:Nat):(⟨b,off,none⟩:Addr).add n = ⟨b,off + n,none⟩:=by
 unfold Addr.add
 split
 · simp_all
 · rfl
theorem Q7d {α:Type} [Inhabited α] {t e:TypeId} {k bts fuel:Nat} {v:Value} {y:DataW H × List MemPlace} {R:World → (Nat → Value) → α → Prop} (ht:Tryz.prog.underlying t = some (.slice e)) (hc:Tryz.prog.cellsOf e = k) (hk:0 < k) (hb:Tryz.prog.bytesOf e = bts) (h8:8 ≤ bts)
    (hel:∀ (cs:List Value) (y:DataW H × List MemPlace) (n:Nat),cs.length = k → DataW.trod enc Tryz.prog W 0 (fun _=>true) true n e cs = some y → X0h e y.1 → ∃ x:α,R W (fun i=>cs.getD i undef) x)
    (hloc:∀ (w:World) (c c':Nat → Value) (x:α),(∀ i,i < k → c i = c' i) → R w c x → R w c' x)
    (h:DataW.trod enc Tryz.prog W 0 (fun _=>true) true fuel t [v] = some y) (hw:X0h t y.1):∃ l:List α,Go.Tw.Rows k R W v l:=by
 rcases open_slice ht h with ⟨hcs,_⟩ | ⟨a,len,cap,m,n,D,Pl,hcs,_,hlc,_,hm,rfl,hx⟩
 · obtain rfl:v = .slice none 0 0:=by simpa using hcs
   exact ⟨[],Go.Tw.Rows.nil _ _ _⟩
 · obtain rfl:v = .slice (some a) len cap:=by simpa using hcs
   simp only [if_true] at hm;subst hm;rw [hc] at hx;have hhead:(len + (m - len)) * bts ≤ 140737488351232:=by
    have:=hw ((((List.range len).map D).length + ((List.range (m - len)).map fun j=>D (len + j)).length) * Tryz.prog.bytesOf e) (by simp [DataW.weights,ht])
    simpa [hb] using this
   have hm8:m * 8 ≤ 140737488351232:=by
    have h1:m = len + (m - len):=by omega
    rw [← h1] at hhead;exact Nat.le_trans (Nat.mul_le_mul_left m h8) hhead
   have hfit:∀ i,i < len → X0h e (D i):=by
    intro i hi x hx';refine hw x ?_;have e1:∀ (l:List (DataW H)) d,d ∈ l → x ∈ d.weights Tryz.prog e → x ∈ DataW.weightsAll Tryz.prog e l:=by
     intro l
     induction l with
     | nil=>intro d hd; cases hd
     | cons d0 l ih =>
       intro d hd hxx;rw [DataW.weightsAll]
       rcases List.mem_cons.1 hd with rfl | hd
       · exact List.mem_append_left _ hxx
       · exact List.mem_append_right _ (ih d hd hxx)
    simp only [DataW.weights,ht];refine List.mem_cons_of_mem _ (List.mem_append_left _ (e1 _ (D i) ?_ hx'));exact List.mem_map.2 ⟨i,List.mem_range.2 hi,rfl⟩
   obtain ⟨f,hf⟩:=choose_lt (α:=List Value) (n:=len) (p:=fun i cs=>(∀ r,r < k → W.cell? ((a.add (i * k)).add r) = cs[r]?) ∧ cs.length = k ∧ ∃ x:α,R W (fun j=>cs.getD j undef) x) (fun i hi=>by
    obtain ⟨cs,h1,h2⟩:=hx i (by omega)
    obtain ⟨_,h3,h4⟩:=World.cells?_some h1;exact ⟨cs,h4,h3,hel cs _ n h3 h2 (hfit i hi)⟩)
   obtain ⟨g,hg⟩:=choose_lt (α:=α) (n:=len) (p:=fun i x=>R W (fun j=>(f i).getD j undef) x) (fun i hi=>(hf i hi).2.2)
   have hR:∀ i,i < len → R W (fun j=>(f ((i * k + j) / k)).getD ((i * k + j) % k) undef) (g i):=fun i hi=>hloc W _ _ _ (fun j hj=>by
    have e1:(i * k + j) / k = i:=by rw [Nat.mul_comm,Nat.mul_add_div hk,Nat.div_eq_of_lt hj,Nat.add_zero]
    have e2:(i * k + j) % k = j:=by rw [Nat.mul_comm,Nat.mul_add_mod,Nat.mod_eq_of_lt hj]
    rw [e1,e2]) (hg i hi)
   refine ⟨(List.range len).map g,fun j=>(f (j / k)).getD (j % k) undef,⟨some a,m,by simp,by simp; omega,by simpa using hlc,fun j hj=>?_⟩,fun j hj=>?_⟩
   · have hj':j < len * k:=by simpa using hj
     have hq:j / k < len:=(Nat.div_lt_iff_lt_mul hk).2 hj';have hr:j % k < k:=Nat.mod_lt _ hk;obtain ⟨h1,h2,_⟩:=hf (j / k) hq;have h3:=h1 (j % k) hr;rw [List.getElem?_eq_getElem (by omega)] at h3
     have hsp:a.spot = none:=by
      obtain ⟨g1,g2,_⟩:=hf 0 (Nat.lt_of_le_of_lt (Nat.zero_le _) hq);have g3:=g1 0 hk;rw [List.getElem?_eq_getElem (by omega)] at g3
      have:=World.cell?_spot g3
      simpa [Addr.add] using this
     obtain ⟨b,off,spot⟩:=a;obtain rfl:spot = none:=hsp;refine ⟨b,off,rfl,?_⟩;have e:(((⟨b,off,none⟩:Addr).add (j / k * k)).add (j % k)) = ⟨b,off + j,none⟩:=by
      rw [X6v,X6v,Nat.add_assoc];have:j / k * k + j % k = j:=by rw [Nat.mul_comm]; exact Nat.div_add_mod j k
      rw [this]
     rw [e] at h3;rw [h3];simp [h2,hr]
   · have hj':j < len:=by simpa using hj
     have:=hR j hj'
     simpa using this
theorem Tryz.c3:Tryz.prog.cellsOf 3 = 1:=by kernel_rfl
theorem Tryz.b3:Tryz.prog.bytesOf 3 = 8:=by kernel_rfl
theorem X2w {fuel:Nat} {v:Value} {y:DataW H × List MemPlace} (h:DataW.trod enc Tryz.prog W 0 (fun _=>true) true fuel 39 [v] = some y) (hw:X0h 39 y.1):∃ l,Q0f W v l :=
 Q7d (α:=Int) Tryz.underlying39 Tryz.c3 (by decide) Tryz.b3 (by decide) (fun cs y n hl h _=>by
  obtain ⟨z,rfl,_,_⟩:=DataW.trod_int Tryz.underlying3 h;exact ⟨z,rfl⟩) (fun _ c c' x hc h=>by rw [← hc 0 (by decide)]; exact h) h hw
theorem str_of_trod {fuel:Nat} {v:Value} {y:DataW H × List MemPlace} (h:DataW.trod enc Tryz.prog W 0 (fun _=>true) true fuel 9 [v] = some y) (hw:X0h 9 y.1):∃ s,v = .string s ∧ Short s:=by
 obtain ⟨s,h1,rfl,_⟩:=DataW.trod_string Tryz.underlying9 h;refine ⟨s,by simpa using h1,?_⟩
 have:=hw s.data.toList.length (by simp [DataW.weights])
 have e:s.data.toList.length = s.size:=Array.length_toList;unfold Short;omega
theorem int_of_trod {fuel:Nat} {v:Value} {y:DataW H × List MemPlace} (h:DataW.trod enc Tryz.prog W 0 (fun _=>true) true fuel 3 [v] = some y):∃ z,v = .int .i64 z:=by
 obtain ⟨z,h1,_,_⟩:=DataW.trod_int Tryz.underlying3 h;exact ⟨z,by simpa using h1⟩
theorem Q3y {t:TypeId} {ts:List TypeId} {d:DataW H} {ds:List (DataW H)} (h:∀ x ∈ DataW.weightsEach Tryz.prog (t :: ts) (d :: ds),x ≤ 140737488351232):X0h t d ∧ ∀ x ∈ DataW.weightsEach Tryz.prog ts ds,x ≤ 140737488351232:=by
 rw [DataW.weightsEach] at h;exact ⟨fun x hx=>h x (List.mem_append_left _ hx),fun x hx=>h x (List.mem_append_right _ hx)⟩
theorem Tryz.cB:Tryz.prog.cellsOf 80 = 2:=by kernel_rfl
theorem Tryz.cC:Tryz.prog.cellsOf 82 = 3:=by kernel_rfl
theorem Tryz.cG:Tryz.prog.cellsOf 128 = 3:=by kernel_rfl
theorem Tryz.cS:Tryz.prog.cellsOf 9 = 1:=by kernel_rfl
theorem Tryz.cI:Tryz.prog.cellsOf 39 = 1:=by kernel_rfl
theorem Tryz.bB:Tryz.prog.bytesOf 80 = 24:=by kernel_rfl
theorem Tryz.bC:Tryz.prog.bytesOf 82 = 48:=by kernel_rfl
theorem Tryz.bG:Tryz.prog.bytesOf 128 = 48:=by kernel_rfl
set_option maxRecDepth 100000 in
theorem X6f {fuel:Nat} {v:Value} {y:DataW H × List MemPlace} (h:DataW.trod enc Tryz.prog W 0 (fun _=>true) true fuel 22 [v] = some y) (hw:X0h 22 y.1):∃ l,Q3k W v l :=
 Q7d (α:=Basic) Tryz.underlying22 Tryz.cB (by decide) Tryz.bB (by decide) (fun cs y n hl h hw=>by
  obtain ⟨y0,y1,m,rfl,_,h0,h1⟩:=trod_struct2 Tryz.underlying80 h
  match cs,hl with
  | [c0,c1],_ =>
    have hw2:∀ x ∈ DataW.weightsEach Tryz.prog [9,3] [y0.1,y1.1],x ≤ 140737488351232:=fun x hx=>hw x (by simpa [DataW.weights,Tryz.underlying80] using hx)
    obtain ⟨w0,_⟩:=Q3y hw2;have h0':DataW.trod enc Tryz.prog W 0 (fun _=>true) true m 9 [c0] = some y0:=by simpa [Tryz.cS,Tryz.c3] using h0
    have h1':DataW.trod enc Tryz.prog W 0 (fun _=>true) true m 3 [c1] = some y1:=by simpa [Tryz.cS,Tryz.c3] using h1
    obtain ⟨s,rfl,hs⟩:=str_of_trod h0' w0;obtain ⟨z,rfl⟩:=int_of_trod h1';exact ⟨⟨s,z⟩,rfl,rfl,hs⟩)
  (fun _ c c' x hc h=>⟨by rw [← hc 0 (by decide)]; exact h.1,by rw [← hc 1 (by decide)]; exact h.2.1,h.2.2⟩) h hw
set_option maxRecDepth 100000 in
theorem X6a {fuel:Nat} {v:Value} {y:DataW H × List MemPlace} (h:DataW.trod enc Tryz.prog W 0 (fun _=>true) true fuel 23 [v] = some y) (hw:X0h 23 y.1):∃ l,Q3w W v l :=
 Q7d (α:=X0o) Tryz.underlying23 Tryz.cC (by decide) Tryz.bC (by decide) (fun cs y n hl h hw=>by
  obtain ⟨y0,y1,y2,m,rfl,_,h0,h1,h2⟩:=trod_struct3 Tryz.underlying82 h
  match cs,hl with
  | [c0,c1,c2],_ =>
    have hw2:∀ x ∈ DataW.weightsEach Tryz.prog [9,3,39] [y0.1,y1.1,y2.1],x ≤ 140737488351232:=fun x hx=>hw x (by simpa [DataW.weights,Tryz.underlying82] using hx)
    obtain ⟨w0,r0⟩:=Q3y hw2;obtain ⟨_,r1⟩:=Q3y r0;obtain ⟨w2,_⟩:=Q3y r1;have h0':DataW.trod enc Tryz.prog W 0 (fun _=>true) true m 9 [c0] = some y0:=by simpa [Tryz.cS,Tryz.c3,Tryz.cI] using h0
    have h1':DataW.trod enc Tryz.prog W 0 (fun _=>true) true m 3 [c1] = some y1:=by simpa [Tryz.cS,Tryz.c3,Tryz.cI] using h1
    have h2':DataW.trod enc Tryz.prog W 0 (fun _=>true) true m 39 [c2] = some y2:=by simpa [Tryz.cS,Tryz.c3,Tryz.cI] using h2
    obtain ⟨s,rfl,hs⟩:=str_of_trod h0' w0;obtain ⟨z,rfl⟩:=int_of_trod h1';obtain ⟨l,hl⟩:=X2w h2' w2;exact ⟨⟨s,z,l⟩,rfl,rfl,hl,hs⟩)
  (fun _ c c' x hc h=>⟨by rw [← hc 0 (by decide)]; exact h.1,by rw [← hc 1 (by decide)]; exact h.2.1,by rw [← hc 2 (by decide)]; exact h.2.2.1,h.2.2.2⟩) h hw
set_option maxRecDepth 100000 in
theorem X7s {fuel:Nat} {v:Value} {y:DataW H × List MemPlace} (h:DataW.trod enc Tryz.prog W 0 (fun _=>true) true fuel 24 [v] = some y) (hw:X0h 24 y.1):∃ l,Q4m W v l :=
 Q7d (α:=Gate) Tryz.underlying24 Tryz.cG (by decide) Tryz.bG (by decide) (fun cs y n hl h hw=>by
  obtain ⟨y0,y1,y2,m,rfl,_,h0,h1,h2⟩:=trod_struct3 Tryz.underlying128 h
  match cs,hl with
  | [c0,c1,c2],_ =>
    have hw2:∀ x ∈ DataW.weightsEach Tryz.prog [9,3,39] [y0.1,y1.1,y2.1],x ≤ 140737488351232:=fun x hx=>hw x (by simpa [DataW.weights,Tryz.underlying128] using hx)
    obtain ⟨w0,r0⟩:=Q3y hw2;obtain ⟨_,r1⟩:=Q3y r0;obtain ⟨w2,_⟩:=Q3y r1;have h0':DataW.trod enc Tryz.prog W 0 (fun _=>true) true m 9 [c0] = some y0:=by simpa [Tryz.cS,Tryz.c3,Tryz.cI] using h0
    have h1':DataW.trod enc Tryz.prog W 0 (fun _=>true) true m 3 [c1] = some y1:=by simpa [Tryz.cS,Tryz.c3,Tryz.cI] using h1
    have h2':DataW.trod enc Tryz.prog W 0 (fun _=>true) true m 39 [c2] = some y2:=by simpa [Tryz.cS,Tryz.c3,Tryz.cI] using h2
    obtain ⟨s,rfl,hs⟩:=str_of_trod h0' w0;obtain ⟨z,rfl⟩:=int_of_trod h1';obtain ⟨l,hl⟩:=X2w h2' w2;exact ⟨⟨s,z,l⟩,rfl,rfl,hl,hs⟩)
  (fun _ c c' x hc h=>⟨by rw [← hc 0 (by decide)]; exact h.1,by rw [← hc 1 (by decide)]; exact h.2.1,by rw [← hc 2 (by decide)]; exact h.2.2.1,h.2.2.2⟩) h hw
theorem Tryz.cT:Tryz.prog.cellsOf 26 = 3:=by kernel_rfl
set_option maxRecDepth 100000 in
theorem Y0o {b0:Nat} {v:Value} {d:DataW H} {ps:List MemPlace} (hv:Value.okWide Tryz.prog W .any b0 26 v) (h:DataW.Trod enc Tryz.prog W 0 (fun _=>true) true 26 v d ps) (hw:X0h 26 d):∃ t,IsTree W v t:=by
 obtain ⟨cs,rfl,hsz⟩:=okWide_struct Tryz.underlying26 hv;rw [Tryz.cT] at hsz;obtain ⟨c0,c1,c2,rfl⟩:∃ a b c,cs = #[a,b,c]:=by
  obtain ⟨l⟩:=cs
  match l,hsz with
  | [a,b,c],_=>exact ⟨a,b,c,rfl⟩
 obtain ⟨fuel,hf⟩:=h;obtain ⟨y0,y1,y2,m,hx,_,h0,h1,h2⟩:=trod_struct3 Tryz.underlying26 hf;simp only [Prod.mk.injEq] at hx;obtain ⟨rfl,_⟩:=hx;have hw2:∀ x ∈ DataW.weightsEach Tryz.prog [22,23,24] [y0.1,y1.1,y2.1],x ≤ 140737488351232:=fun x hx=>hw x (by simpa [DataW.weights,Tryz.underlying26] using hx)
 obtain ⟨w0,r0⟩:=Q3y hw2;obtain ⟨w1,r1⟩:=Q3y r0;obtain ⟨w2,_⟩:=Q3y r1;have e0:Tryz.prog.cellsOf 22 = 1:=by kernel_rfl
 have e1:Tryz.prog.cellsOf 23 = 1:=by kernel_rfl
 have e2:Tryz.prog.cellsOf 24 = 1:=by kernel_rfl
 have h0':DataW.trod enc Tryz.prog W 0 (fun _=>true) true m 22 [c0] = some y0:=by simpa [e0,e1,e2,Value.cells] using h0
 have h1':DataW.trod enc Tryz.prog W 0 (fun _=>true) true m 23 [c1] = some y1:=by simpa [e0,e1,e2,Value.cells] using h1
 have h2':DataW.trod enc Tryz.prog W 0 (fun _=>true) true m 24 [c2] = some y2:=by simpa [e0,e1,e2,Value.cells] using h2
 obtain ⟨b,hb⟩:=X6f h0' w0;obtain ⟨c,hc⟩:=X6a h1' w1;obtain ⟨g,hg⟩:=X7s h2' w2;exact ⟨⟨b,c,g⟩,_,_,_,rfl,⟨hb,hc,hg⟩⟩
end
end Go.Proofs
namespace Go.Tw
open Go.RowKit
def Q0q {α:Type} (w:World) (base:Nat) (e:TypeId) (enc:α → Value) (v:Value) (l:List α):Prop:=w.ownsRow base e 1 v l.length (l.map enc)
theorem Q0q.nil {α:Type} (w:World) (base:Nat) (e:TypeId) (enc:α → Value):Q0q w base e enc (.slice none 0 0) []:=World.ownsRow_nil w base e 1
theorem Q0q.row {α:Type} {w:World} {base:Nat} {e:TypeId} {enc:α → Value} {v:Value} {l:List α} (h:Q0q w base e enc v l) (hl:l.length ≤ 17592186043904) (c:Nat → Value)
    (hc:∀ k (hk:k < l.length),c k = enc l[k]):Row w v l.length 1 c:=by
 obtain ⟨_,h2⟩:=h
 rcases h2 with ⟨rfl,h0⟩ | ⟨g,cap,cur,rfl,_,hg,hcap,_,_,htake⟩
 · exact ⟨none,0,by rw [h0],hl,by omega,fun j hj=>by omega⟩
 · refine ⟨some ⟨g,0,none⟩,cap,rfl,hl,hcap,fun j hj=>⟨g,0,rfl,?_⟩⟩
   have hj':j < l.length:=by omega
   rw [Nat.zero_add];have h1:=congrArg (fun l=>l[j]?) htake;simp only [Nat.mul_one,List.getElem?_take,hj',if_true,List.getElem?_map,List.getElem?_eq_getElem hj',Option.map_some] at h1;simp only [World.cell?,hg,hc j hj']
   simpa using h1
theorem Q0q.rows {α:Type} {w:World} {base:Nat} {e:TypeId} {enc:α → Value} {v:Value} {l:List α} {R:World → (Nat → Value) → α → Prop} (h:Q0q w base e enc v l) (hl:l.length ≤ 17592186043904)
    (hR:∀ x ∈ l,R w (fun _=>enc x) x) (hloc:∀ c c' x,c 0 = c' 0 → R w c x → R w c' x):Rows 1 R w v l:=by
 refine ⟨fun k=>((l.map enc)[k]?).getD undef,h.row hl _ (fun k hk=>by simp [hk]),fun j hj=>hloc _ _ _ ?_ (hR _ (List.getElem_mem hj))⟩
 simp [hj]
theorem Q0q.ints {w:World} {base:Nat} {e:TypeId} {v:Value} {l:List Int} (h:Q0q w base e (Value.int .i64) v l) (hl:l.length ≤ 17592186043904):Q0f w v l :=
 h.rows hl (fun _ _=>rfl) (fun _ _ _ h h'=>h ▸ h')
theorem Q0q.bools {w:World} {base:Nat} {e:TypeId} {v:Value} {l:List Bool} (h:Q0q w base e Value.bool v l) (hl:l.length ≤ 17592186043904):Q4s w v l :=
 h.rows hl (fun _ _=>rfl) (fun _ _ _ h h'=>h ▸ h')
theorem Q0q.below {α:Type} {w w':World} {base:Nat} {e:TypeId} {enc:α → Value} {v:Value} {l:List α} (h:Q0q w base e enc v l) (hx:Ext w w'):Q0q w' base e enc v l:=by
 obtain ⟨h1,h2⟩:=h;refine ⟨h1,?_⟩
 rcases h2 with h2 | ⟨g,cap,cur,hv,hb,hg,r⟩
 · exact .inl h2
 · refine .inr ⟨g,cap,cur,hv,hb,?_,r⟩
   rw [Below.block hx g (Array.getElem?_eq_some_iff.1 hg).1]; exact hg
theorem Q0q.snoc {α:Type} {w:World} {base:Nat} {e:TypeId} {enc:α → Value} {v:Value} {l:List α} {x:α} (h:w.ownsRow base e 1 v (l.length + 1) (l.map enc ++ [enc x])):Q0q w base e enc v (l ++ [x]):=by
 unfold Q0q; simpa using h
theorem Q5h {w wr w':World} {v:Value} {base:Nat} {e:TypeId} {n size:Nat} {xs:List Value} {o:Obj} (hx:Ext w wr) (hown:wr.ownsRow base e size v n xs) (hb:w.heap.size ≤ base) (hg:(wr.alloc o).grownBy w' v.ownBlock):Ext w w' :=
 Below.grown (hx.alloc o) hg (by have:=hx.size; simp; omega) (fun k hk=>by have:=(hown.lt k hk).1; omega)
theorem Q9g (w:World) (x:Value) (e:TypeId):∀ j u,[x][j]? = some u → (w.alloc (.cells #[x] e)).cell? ((⟨w.heap.size,0,none⟩:Addr).add j) = some u:=by
 intro j u h;cases j with
 | zero =>
   simp only [List.getElem?_cons_zero,Option.some.injEq] at h;subst h;show (w.alloc (.cells #[x] e)).cell? ⟨w.heap.size,0,none⟩ = some x;rw [World.cell?_alloc_at _ _ _ _ rfl];rfl
 | succ j=>simp at h
theorem Q3q {l:List Int} {k:Nat} (h:k < l.length):l.drop k = ix l k :: l.drop (k + 1):=by rw [Q8m h]; exact List.drop_eq_getElem_cons h
end Go.Tw
