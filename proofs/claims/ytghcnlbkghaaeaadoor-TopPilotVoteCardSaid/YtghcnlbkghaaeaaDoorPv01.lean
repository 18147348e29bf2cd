/- What values read as: slices as lists, structs as structures; all of it is kept where memory only grows. Trees as data, and what the values of the Go types read as. What the arguments of a law read as: trees, lists of numbers, lists of lists. Slices that a call makes and appends to, read as lists. What the functions of chapter 7 come to, in plain lists and numbers: no program is in sight here. Contracts of small functions of the references. Contracts: sizes, names and chances of events; powers; sets as bits. -/
import Derived.WalkKit
import Derived.WalkSpells
import Derived.WalkLawsBesides
import Derived.Lib.Hide
import Derived.Below
import Derived.Carry
import Derived.Test.YtghcnlbkghaaeaaDoorProg
import Derived.Deep.Slices
import Derived.Deep.Strs
import Derived.ProofKit
import Derived.SizedLaws
import Derived.Laws.AppendOwn
import Derived.Deep.DeepMust
import Derived.Deep.Light
import Derived.Deep.QuietTactic
import Derived.BigQuiet
set_option maxRecDepth 1000000
set_option maxHeartbeats 64000000
set_option linter.unusedVariables false
set_option linter.unusedSimpArgs false
set_option linter.constructorNameAsVariable false
namespace Go.Tw
open Go.RowKit
theorem gA {α:Type} (l:List α) (i:Nat):l.toArray[i]? = l[i]?:=by simp
theorem gB {α:Type} (a:α) (l:List α):(a :: l)[0]? = some a:=rfl
theorem gC {α:Type} (a:α) (l:List α) (i:Nat):(a :: l)[i + 1]? = l[i]?:=by simp
def Ext (w w':World):Prop:=Below w.heap.size w w'
theorem Ext.refl (w:World):Ext w w:=Below.refl _ _
theorem Ext.trans {a b c:World} (h:Ext a b) (k:Ext b c):Ext a c:=Below.trans h (Below.mono k h.size)
theorem Ext.drew {a b:World} (h:Ext a b):Ext a b.drew:=Below.drew h
theorem Ext.alloc {a b:World} (h:Ext a b) (o:Obj):Ext a (b.alloc o):=Below.alloc h h.size o
theorem Ext.below {a b:World} (h:Ext a b) {n:Nat} (hn:n <= a.heap.size):Below n a b:=Below.mono h hn
theorem Ext.cell {a b:World} (h:Ext a b) {p:Addr} {v:Value} (hc:a.cell? p = some v):b.cell? p = some v :=
 (Below.cell h (World.block_lt_of_cell? a p hc)).trans hc
theorem Ext.size {a b:World} (h:Ext a b):a.heap.size <= b.heap.size:=Below.size h
def ix (l:List Int) (k:Nat):Int:=l.getD k 0
theorem ix_eq {l:List Int} {k:Nat} (h:k < l.length):ix l k = l[k]:=by simp [ix,h]
def Row (w:World) (v:Value) (n sz:Nat) (c:Nat -> Value):Prop :=
 ∃ A cap,v = .slice A n cap /\ n <= 17592186043904 /\ n <= cap /\ ∀ j,j < n * sz -> ∃ b off,A = some ⟨b,off,none⟩ /\ w.cell? ⟨b,off + j,none⟩ = some (c j)
theorem Row.ext {w w':World} {v:Value} {n sz:Nat} {c:Nat -> Value} (h:Row w v n sz c) (hx:Ext w w'):Row w' v n sz c:=by
 obtain ⟨A,cap,hv,hn,hcap,hc⟩:=h;exact ⟨A,cap,hv,hn,hcap,fun j hj=>let ⟨b,off,hA,h⟩:=hc j hj; ⟨b,off,hA,hx.cell h⟩⟩
def Rows {α:Type} (sz:Nat) (R:World -> (Nat -> Value) -> α -> Prop) (w:World) (v:Value) (l:List α):Prop :=
 ∃ c,Row w v l.length sz c /\ ∀ j (h:j < l.length),R w (fun i=>c (j * sz + i)) l[j]
theorem Rows.ext {α:Type} {sz:Nat} {R:World -> (Nat -> Value) -> α -> Prop} (hR:∀ w w' c x,Ext w w' -> R w c x -> R w' c x) {w w':World} {v:Value} {l:List α}
    (h:Rows sz R w v l) (hx:Ext w w'):Rows sz R w' v l:=by
 obtain ⟨c,h1,h2⟩:=h;exact ⟨c,h1.ext hx,fun j hj=>hR _ _ _ _ hx (h2 j hj)⟩
theorem Rows.nil {α:Type} (sz:Nat) (R:World -> (Nat -> Value) -> α -> Prop) (w:World):Rows sz R w (.slice none 0 0) [] :=
 ⟨fun _=>undef,⟨none,0,rfl,by simp,by simp,fun j hj=>by simp at hj⟩,fun j hj=>by simp at hj⟩
def IsInts:World -> Value -> List Int -> Prop:=Rows 1 fun _ c x=>c 0 = .int .i64 x
def IsBools:World -> Value -> List Bool -> Prop:=Rows 1 fun _ c x=>c 0 = .bool x
def IsStrs:World -> Value -> List ByteArray -> Prop:=Rows 1 fun _ c x=>c 0 = .string x
def IsIntss:World -> Value -> List (List Int) -> Prop:=Rows 1 fun w c x=>IsInts w (c 0) x
theorem IsInts.ext {w w':World} {v:Value} {l:List Int} (h:IsInts w v l) (hx:Ext w w'):IsInts w' v l:=Rows.ext (fun _ _ _ _ _ h=>h) h hx
theorem IsBools.ext {w w':World} {v:Value} {l:List Bool} (h:IsBools w v l) (hx:Ext w w'):IsBools w' v l:=Rows.ext (fun _ _ _ _ _ h=>h) h hx
theorem IsStrs.ext {w w':World} {v:Value} {l:List ByteArray} (h:IsStrs w v l) (hx:Ext w w'):IsStrs w' v l:=Rows.ext (fun _ _ _ _ _ h=>h) h hx
theorem IsIntss.ext {w w':World} {v:Value} {l:List (List Int)} (h:IsIntss w v l) (hx:Ext w w'):IsIntss w' v l:=Rows.ext (fun _ _ _ _ hx h=>h.ext hx) h hx
theorem IsInts.opened {w:World} {v:Value} {l:List Int} (h:IsInts w v l) :
    ∃ A cap,v = .slice A l.length cap /\ l.length <= 17592186043904 /\ l.length <= cap /\ ∀ k,k < l.length -> ∃ b off,A = some ⟨b,off,none⟩ /\ w.cell? ⟨b,off + k,none⟩ = some (.int .i64 (ix l k)):=by
 obtain ⟨c,⟨A,cap,hv,hn,hcap,hc⟩,h2⟩:=h;refine ⟨A,cap,hv,hn,hcap,fun k hk=>?_⟩;obtain ⟨b,off,hA,h⟩:=hc k (by omega)
 refine ⟨b,off,hA,?_⟩;have:=h2 k hk;simp only [Nat.mul_one,Nat.add_zero] at this;rw [h,this,ix_eq hk]
end Go.Tw
namespace Go.Tw
open Go.RowKit
structure Basic where
 name:ByteArray
 chance:Int
structure Cause where
 name:ByteArray
 chance:Int
 members:List Int
structure Gate where
 kind:ByteArray
 need:Int
 inputs:List Int
structure Tree where
 basics:List Basic
 causes:List Cause
 gates:List Gate
instance:Inhabited Basic:=⟨⟨⟨#[]⟩,0⟩⟩
instance:Inhabited Cause:=⟨⟨⟨#[]⟩,0,[]⟩⟩
instance:Inhabited Gate:=⟨⟨⟨#[]⟩,0,[]⟩⟩
def Short (s:ByteArray):Prop:=s.size <= 140737488355328
def RBasic (_:World) (c:Nat -> Value) (x:Basic):Prop:=c 0 = .string x.name /\ c 1 = .int .i64 x.chance /\ Short x.name
def RCause (w:World) (c:Nat -> Value) (x:Cause):Prop:=c 0 = .string x.name /\ c 1 = .int .i64 x.chance /\ IsInts w (c 2) x.members /\ Short x.name
def RGate (w:World) (c:Nat -> Value) (x:Gate):Prop:=c 0 = .string x.kind /\ c 1 = .int .i64 x.need /\ IsInts w (c 2) x.inputs /\ Short x.kind
theorem RBasic.ext (w w':World) (c:Nat -> Value) (x:Basic) (_:Ext w w') (h:RBasic w c x):RBasic w' c x:=h
theorem RCause.ext (w w':World) (c:Nat -> Value) (x:Cause) (hx:Ext w w') (h:RCause w c x):RCause w' c x:=⟨h.1,h.2.1,h.2.2.1.ext hx,h.2.2.2⟩
theorem RGate.ext (w w':World) (c:Nat -> Value) (x:Gate) (hx:Ext w w') (h:RGate w c x):RGate w' c x:=⟨h.1,h.2.1,h.2.2.1.ext hx,h.2.2.2⟩
def IsBasics:World -> Value -> List Basic -> Prop:=Rows 2 RBasic
def IsCauses:World -> Value -> List Cause -> Prop:=Rows 3 RCause
def IsGates:World -> Value -> List Gate -> Prop:=Rows 3 RGate
theorem IsBasics.ext {w w':World} {v:Value} {l:List Basic} (h:IsBasics w v l) (hx:Ext w w'):IsBasics w' v l:=Rows.ext RBasic.ext h hx
theorem IsCauses.ext {w w':World} {v:Value} {l:List Cause} (h:IsCauses w v l) (hx:Ext w w'):IsCauses w' v l:=Rows.ext RCause.ext h hx
theorem IsGates.ext {w w':World} {v:Value} {l:List Gate} (h:IsGates w v l) (hx:Ext w w'):IsGates w' v l:=Rows.ext RGate.ext h hx
structure IsTree3 (w:World) (a b c:Value) (t:Tree):Prop where
 basics:IsBasics w a t.basics
 causes:IsCauses w b t.causes
 gates:IsGates w c t.gates
theorem IsTree3.ext {w w':World} {a b c:Value} {t:Tree} (h:IsTree3 w a b c t) (hx:Ext w w'):IsTree3 w' a b c t:=⟨h.basics.ext hx,h.causes.ext hx,h.gates.ext hx⟩
def IsTree (w:World) (v:Value) (t:Tree):Prop:=∃ a b c,v = .agg #[a,b,c] /\ IsTree3 w a b c t
theorem IsTree.ext {w w':World} {v:Value} {t:Tree} (h:IsTree w v t) (hx:Ext w w'):IsTree w' v t:=let ⟨a,b,c,hv,h3⟩:=h; ⟨a,b,c,hv,h3.ext hx⟩
def bName (l:List Basic) (k:Nat):ByteArray:=(l.getD k default).name
def bChance (l:List Basic) (k:Nat):Int:=(l.getD k default).chance
def cName (l:List Cause) (k:Nat):ByteArray:=(l.getD k default).name
def cChance (l:List Cause) (k:Nat):Int:=(l.getD k default).chance
def cMembers (l:List Cause) (k:Nat):List Int:=(l.getD k default).members
def gKind (l:List Gate) (k:Nat):ByteArray:=(l.getD k default).kind
def gNeed (l:List Gate) (k:Nat):Int:=(l.getD k default).need
def gInputs (l:List Gate) (k:Nat):List Int:=(l.getD k default).inputs
theorem ret_int {k:IntKind} {a b:Int} (h:a = b):Ending.returned (.int k a) = .returned (.int k b):=by rw [h]
theorem ret_bool {a b:Bool} (h:a = b):Ending.returned (.bool a) = .returned (.bool b):=by rw [h]
def has (l:List Int) (x:Int):Bool:=l.contains x
theorem has_cons (y:Int) (l:List Int) (x:Int):has (y :: l) x = (y == x || has l x):=by
 unfold has; rw [List.contains_cons,Bool.beq_comm]
theorem has_iff {l:List Int} {x:Int}:has l x = true ↔ x ∈ l:=by simp [has]
theorem getD_of {α:Type} {l:List α} {k:Nat} (d:α) (h:k < l.length):l.getD k d = l[k]:=by simp [h]
theorem IsBasics.opened {w:World} {v:Value} {l:List Basic} (h:IsBasics w v l) :
    ∃ A cap,v = .slice A l.length cap /\ l.length <= 17592186043904 /\ l.length <= cap /\ ∀ k,k < l.length -> ∃ b off,A = some ⟨b,off,none⟩ /\ b < w.heap.size /\
     w.cell? ⟨b,off + k * 2,none⟩ = some (.string (bName l k)) /\ w.cell? ⟨b,off + k * 2 + 1,none⟩ = some (.int .i64 (bChance l k)) /\ Short (bName l k):=by
 obtain ⟨c,⟨A,cap,hv,hn,hcap,hc⟩,h2⟩:=h;refine ⟨A,cap,hv,hn,hcap,fun k hk=>?_⟩;obtain ⟨b,off,hA,h0⟩:=hc (k * 2) (by omega)
 obtain ⟨b',off',hA',h1⟩:=hc (k * 2 + 1) (by omega)
 rw [hA] at hA'; cases hA';obtain ⟨e0,e1,e2⟩:=h2 k hk;simp only [Nat.add_zero] at e0 e1;refine ⟨b,off,hA,World.block_lt_of_cell? w _ h0,?_,?_,?_⟩
 . rw [h0,e0,bName,getD_of _ hk]
 . rw [Nat.add_assoc,h1,e1,bChance,getD_of _ hk]
 . rw [bName,getD_of _ hk]; exact e2
theorem IsCauses.opened {w:World} {v:Value} {l:List Cause} (h:IsCauses w v l) :
    ∃ A cap,v = .slice A l.length cap /\ l.length <= 17592186043904 /\ l.length <= cap /\ ∀ k,k < l.length -> ∃ b off m,A = some ⟨b,off,none⟩ /\ b < w.heap.size /\
     w.cell? ⟨b,off + k * 3,none⟩ = some (.string (cName l k)) /\ w.cell? ⟨b,off + k * 3 + 1,none⟩ = some (.int .i64 (cChance l k)) /\
     w.cell? ⟨b,off + k * 3 + 2,none⟩ = some m /\ IsInts w m (cMembers l k) /\ Short (cName l k):=by
 obtain ⟨c,⟨A,cap,hv,hn,hcap,hc⟩,h2⟩:=h;refine ⟨A,cap,hv,hn,hcap,fun k hk=>?_⟩;obtain ⟨b,off,hA,h0⟩:=hc (k * 3) (by omega)
 obtain ⟨b',off',hA',h1⟩:=hc (k * 3 + 1) (by omega)
 rw [hA] at hA'; cases hA';obtain ⟨b',off',hA',h3⟩:=hc (k * 3 + 2) (by omega)
 rw [hA] at hA'; cases hA';obtain ⟨e0,e1,e2,e3⟩:=h2 k hk;simp only [Nat.add_zero] at e0 e1;refine ⟨b,off,c (k * 3 + 2),hA,World.block_lt_of_cell? w _ h0,?_,?_,?_,?_,?_⟩
 . rw [h0,e0,cName,getD_of _ hk]
 . rw [Nat.add_assoc,h1,e1,cChance,getD_of _ hk]
 . rw [Nat.add_assoc,h3]
 . rw [cMembers,getD_of _ hk]; exact e2
 . rw [cName,getD_of _ hk]; exact e3
theorem IsGates.opened {w:World} {v:Value} {l:List Gate} (h:IsGates w v l) :
    ∃ A cap,v = .slice A l.length cap /\ l.length <= 17592186043904 /\ l.length <= cap /\ ∀ k,k < l.length -> ∃ b off m,A = some ⟨b,off,none⟩ /\ b < w.heap.size /\
     w.cell? ⟨b,off + k * 3,none⟩ = some (.string (gKind l k)) /\ w.cell? ⟨b,off + k * 3 + 1,none⟩ = some (.int .i64 (gNeed l k)) /\
     w.cell? ⟨b,off + k * 3 + 2,none⟩ = some m /\ IsInts w m (gInputs l k) /\ Short (gKind l k):=by
 obtain ⟨c,⟨A,cap,hv,hn,hcap,hc⟩,h2⟩:=h;refine ⟨A,cap,hv,hn,hcap,fun k hk=>?_⟩;obtain ⟨b,off,hA,h0⟩:=hc (k * 3) (by omega)
 obtain ⟨b',off',hA',h1⟩:=hc (k * 3 + 1) (by omega)
 rw [hA] at hA'; cases hA';obtain ⟨b',off',hA',h3⟩:=hc (k * 3 + 2) (by omega)
 rw [hA] at hA'; cases hA';obtain ⟨e0,e1,e2,e3⟩:=h2 k hk;simp only [Nat.add_zero] at e0 e1;refine ⟨b,off,c (k * 3 + 2),hA,World.block_lt_of_cell? w _ h0,?_,?_,?_,?_,?_⟩
 . rw [h0,e0,gKind,getD_of _ hk]
 . rw [Nat.add_assoc,h1,e1,gNeed,getD_of _ hk]
 . rw [Nat.add_assoc,h3]
 . rw [gInputs,getD_of _ hk]; exact e2
 . rw [gKind,getD_of _ hk]; exact e3
def bx (l:List Bool) (k:Nat):Bool:=l.getD k false
theorem IsBools.opened {w:World} {v:Value} {l:List Bool} (h:IsBools w v l) :
    ∃ A cap,v = .slice A l.length cap /\ l.length <= 17592186043904 /\ l.length <= cap /\ ∀ k,k < l.length -> ∃ b off,A = some ⟨b,off,none⟩ /\ b < w.heap.size /\ w.cell? ⟨b,off + k,none⟩ = some (.bool (bx l k)):=by
 obtain ⟨c,⟨A,cap,hv,hn,hcap,hc⟩,h2⟩:=h;refine ⟨A,cap,hv,hn,hcap,fun k hk=>?_⟩;obtain ⟨b,off,hA,h⟩:=hc k (by omega)
 refine ⟨b,off,hA,World.block_lt_of_cell? w _ h,?_⟩;have:=h2 k hk;simp only [Nat.mul_one,Nat.add_zero] at this;rw [h,this,bx,getD_of _ hk]
theorem str_eq {a b:ByteArray} (h:a = b):(a == b) = true:=by subst h; obtain ⟨⟨d⟩⟩:=a; show (Array.mk d == Array.mk d) = true; simp
theorem str_ne {a b:ByteArray} (h:¬ a = b):(a == b) = false:=by
 obtain ⟨a⟩:=a; obtain ⟨b⟩:=b;show (a == b) = false;rw [beq_eq_false_iff_ne];exact fun e=>h (by rw [e])
theorem Ext.cells {a b:World} (h:Ext a b):∀ k o,k < a.heap.size -> b.cell? ⟨k,o,none⟩ = a.cell? ⟨k,o,none⟩:=fun _ _ hk=>Below.cell (p:=⟨_,_,none⟩) h hk
end Go.Tw
namespace Go.Proofs
open Go.RowKit Go.Tw Go.ChangeShapes Go.WideShapes Go.Deep
section
variable {H:Type} {enc:TypeId × Value -> H} {W:World}
def Y1t (t:TypeId) (d:DataW H):Prop:=∀ x ∈ d.weights Tryd.prog t,x <= 140737488351232
theorem Tryd.c3:Tryd.prog.cellsOf 3 = 1:=by kernel_rfl
theorem Tryd.b3:Tryd.prog.bytesOf 3 = 8:=by kernel_rfl
theorem X0s {t:TypeId} {ts:List TypeId} {d:DataW H} {ds:List (DataW H)} (h:∀ x ∈ DataW.weightsEach Tryd.prog (t :: ts) (d :: ds),x <= 140737488351232):Y1t t d /\ ∀ x ∈ DataW.weightsEach Tryd.prog ts ds,x <= 140737488351232:=by
 rw [DataW.weightsEach] at h;exact ⟨fun x hx=>h x (List.mem_append_left _ hx),fun x hx=>h x (List.mem_append_right _ hx)⟩
end
end Go.Proofs
namespace Go.Tw
open Go.RowKit
def Q0f {α:Type} (w:World) (base:Nat) (e:TypeId) (enc:α -> Value) (v:Value) (l:List α):Prop:=w.ownsRow base e 1 v l.length (l.map enc)
theorem Q0f.nil {α:Type} (w:World) (base:Nat) (e:TypeId) (enc:α -> Value):Q0f w base e enc (.slice none 0 0) []:=World.ownsRow_nil w base e 1
theorem Q0f.row {α:Type} {w:World} {base:Nat} {e:TypeId} {enc:α -> Value} {v:Value} {l:List α} (h:Q0f w base e enc v l) (hl:l.length <= 17592186043904) (c:Nat -> Value)
    (hc:∀ k (hk:k < l.length),c k = enc l[k]):Row w v l.length 1 c:=by
 obtain ⟨_,h2⟩:=h
 rcases h2 with ⟨rfl,h0⟩ | ⟨g,cap,cur,rfl,_,hg,hcap,_,_,htake⟩
 . exact ⟨none,0,by rw [h0],hl,by omega,fun j hj=>by omega⟩
 . refine ⟨some ⟨g,0,none⟩,cap,rfl,hl,hcap,fun j hj=>⟨g,0,rfl,?_⟩⟩
   have hj':j < l.length:=by omega
   rw [Nat.zero_add];have h1:=congrArg (fun l=>l[j]?) htake;simp only [Nat.mul_one,List.getElem?_take,hj',if_true,List.getElem?_map,List.getElem?_eq_getElem hj',Option.map_some] at h1;simp only [World.cell?,hg,hc j hj']
   simpa using h1
theorem Q0f.rows {α:Type} {w:World} {base:Nat} {e:TypeId} {enc:α -> Value} {v:Value} {l:List α} {R:World -> (Nat -> Value) -> α -> Prop} (h:Q0f w base e enc v l) (hl:l.length <= 17592186043904)
    (hR:∀ x ∈ l,R w (fun _=>enc x) x) (hloc:∀ c c' x,c 0 = c' 0 -> R w c x -> R w c' x):Rows 1 R w v l:=by
 refine ⟨fun k=>((l.map enc)[k]?).getD undef,h.row hl _ (fun k hk=>by simp [hk]),fun j hj=>hloc _ _ _ ?_ (hR _ (List.getElem_mem hj))⟩
 simp [hj]
theorem Q0f.ints {w:World} {base:Nat} {e:TypeId} {v:Value} {l:List Int} (h:Q0f w base e (Value.int .i64) v l) (hl:l.length <= 17592186043904):IsInts w v l :=
 h.rows hl (fun _ _=>rfl) (fun _ _ _ h h'=>h ▸ h')
theorem Q0f.below {α:Type} {w w':World} {base:Nat} {e:TypeId} {enc:α -> Value} {v:Value} {l:List α} (h:Q0f w base e enc v l) (hx:Ext w w'):Q0f w' base e enc v l:=by
 obtain ⟨h1,h2⟩:=h;refine ⟨h1,?_⟩
 rcases h2 with h2 | ⟨g,cap,cur,hv,hb,hg,r⟩
 . exact .inl h2
 . refine .inr ⟨g,cap,cur,hv,hb,?_,r⟩
   rw [Below.block hx g (Array.getElem?_eq_some_iff.1 hg).1]; exact hg
theorem Q0f.snoc {α:Type} {w:World} {base:Nat} {e:TypeId} {enc:α -> Value} {v:Value} {l:List α} {x:α} (h:w.ownsRow base e 1 v (l.length + 1) (l.map enc ++ [enc x])):Q0f w base e enc v (l ++ [x]):=by
 unfold Q0f; simpa using h
theorem Q1z {w wr w':World} {v:Value} {base:Nat} {e:TypeId} {n size:Nat} {xs:List Value} {o:Obj} (hx:Ext w wr) (hown:wr.ownsRow base e size v n xs) (hb:w.heap.size <= base) (hg:(wr.alloc o).grownBy w' v.ownBlock):Ext w w' :=
 Below.grown (hx.alloc o) hg (by have:=hx.size; simp; omega) (fun k hk=>by have:=(hown.lt k hk).1; omega)
theorem Q3p (w:World) (x:Value) (e:TypeId):∀ j u,[x][j]? = some u -> (w.alloc (.cells #[x] e)).cell? ((⟨w.heap.size,0,none⟩:Addr).add j) = some u:=by
 intro j u h;cases j with
 | zero =>
   simp only [List.getElem?_cons_zero,Option.some.injEq] at h;subst h;show (w.alloc (.cells #[x] e)).cell? ⟨w.heap.size,0,none⟩ = some x;rw [World.cell?_alloc_at _ _ _ _ rfl];rfl
 | succ j=>simp at h
theorem Q1s {l:List Int} {k:Nat} (h:k < l.length):l.drop k = ix l k :: l.drop (k + 1):=by rw [ix_eq h]; exact List.drop_eq_getElem_cons h
end Go.Tw
namespace Go.Tw
def firstErr:List Int -> Int
 | []=>0
 | x :: l=>if x = 0 then firstErr l else x
def rangeErr (x a b:Int):Int:=if x < a ∨ b < x then 3 else 0
def ascB:List Int -> Bool
 | x :: y :: l=>decide (x < y) && ascB (y :: l)
 | _=>true
def outB (l:List Int) (n:Int):Bool:=l.any fun x=>decide (x < 0 ∨ n <= x)
def setErr (l:List Int) (n:Int):Int:=if outB l n then 10 else if ascB l then 0 else 11
def listErr (l:List Int) (n:Int):Int:=if l = [] then 12 else setErr l n
def letterB (c:UInt8):Bool:=(decide (97 <= c) && decide (c <= 122)) || (decide (65 <= c) && decide (c <= 90))
def otherB (c:UInt8):Bool:=c == 95 || (decide (48 <= c) && decide (c <= 57))
def nameB (s:ByteArray):Bool:=match s.data.toList with
 | []=>false
 | c :: l=>letterB c && l.all (fun c=>letterB c || otherB c) && decide (l.length < 24)
def nameErr (s:ByteArray):Int:=if nameB s then 0 else 8
def sAnd:ByteArray:=⟨#[97,110,100]⟩
def sOr:ByteArray:=⟨#[111,114]⟩
def sVote:ByteArray:=⟨#[118,111,116,101]⟩
namespace Tree
def size (t:Tree):Nat:=t.basics.length + t.causes.length
def nodes (t:Tree):Nat:=t.basics.length + t.gates.length
def nameAt (t:Tree) (i:Nat):ByteArray:=if i < t.basics.length then bName t.basics i else cName t.causes (i - t.basics.length)
def chanceAt (t:Tree) (i:Nat):Int:=if i < t.basics.length then bChance t.basics i else cChance t.causes (i - t.basics.length)
def twiceB (t:Tree) (i:Nat):Bool:=(List.range i).any fun k=>t.nameAt k == t.nameAt i
def eventErr (t:Tree) (i:Nat):Int :=
 firstErr [nameErr (t.nameAt i),rangeErr (t.chanceAt i) 0 16,if t.twiceB i then 9 else 0,if i < t.basics.length then 0 else listErr (cMembers t.causes (i - t.basics.length)) t.basics.length]
end Tree
def kindB (s:ByteArray):Bool:=s == sAnd || s == sOr || s == sVote
def needErr (kind:ByteArray) (need:Int) (n:Nat):Int:=if kind = sVote then rangeErr need 1 n else rangeErr need 0 0
def gateErr (kind:ByteArray) (need:Int) (inputs:List Int) (nodes:Int):Int :=
 firstErr [if kindB kind then 0 else 13,if 12 < inputs.length then 5 else 0,listErr inputs nodes,needErr kind need inputs.length]
namespace Tree
def gateErrAt (t:Tree) (i:Nat):Int:=gateErr (gKind t.gates i) (gNeed t.gates i) (gInputs t.gates i) ((t.basics.length:Int) + i)
def err (t:Tree):Int :=
 if t.basics.length = 0 ∨ t.gates.length = 0 then 12 else if 12 < t.size ∨ 32 < t.gates.length then 5 else
 firstErr ((List.range t.size).map t.eventErr ++ (List.range t.gates.length).map t.gateErrAt)
def basicB (t:Tree) (ev:Nat -> Bool) (i:Nat):Bool:=ev i || (List.range t.causes.length).any fun k=>ev (t.basics.length + k) && has (cMembers t.causes k) i
end Tree
def needOf (kind:ByteArray) (need:Int) (n:Nat):Int:=if kind = sAnd then n else if kind = sOr then 1 else need
def failing (out:List Bool) (inputs:List Int):Nat:=inputs.countP fun x=>bx out x.toNat
def gateB (out:List Bool) (kind:ByteArray) (need:Int) (inputs:List Int):Bool:=decide (needOf kind need inputs.length <= failing out inputs)
namespace Tree
def basicsB (t:Tree) (ev:Nat -> Bool):List Bool:=(List.range t.basics.length).map (t.basicB ev)
def gatesB (t:Tree) (ev:Nat -> Bool):Nat -> List Bool
 | 0=>t.basicsB ev
 | n + 1=>t.gatesB ev n ++ [gateB (t.gatesB ev n) (gKind t.gates n) (gNeed t.gates n) (gInputs t.gates n)]
def states (t:Tree) (ev:Nat -> Bool):List Bool:=t.gatesB ev t.gates.length
def fails (t:Tree) (ev:Nat -> Bool):Bool:=bx (t.states ev) (t.nodes - 1)
end Tree
def evL (l:List Int) (i:Nat):Bool:=has l i
def evN (s:Nat) (i:Nat):Bool:=s.testBit i
def bitsOf (s:Nat):List Int:=((List.range 16).filter (s.testBit ·)).map Int.ofNat
def others (n:Nat) (l:List Int):List Int:=((List.range n).map Int.ofNat).filter fun x=>!has l x
def without (l:List Int) (k:Nat):List Int:=l.take k ++ l.drop (k + 1)
namespace Tree
def chances (t:Tree):List Int:=(List.range t.size).map t.chanceAt
def setB (t:Tree) (l:List Int) (paths:Bool):Bool:=if paths then !t.fails (evL (others t.size l)) else t.fails (evL l)
def minimalB (t:Tree) (l:List Int) (paths:Bool):Bool:=t.setB l paths && !(List.range l.length).any fun k=>t.setB (without l k) paths
end Tree
def lessB:List Int -> List Int -> Bool
 | x :: l,y :: m=>if x = y then lessB l m else decide (x < y)
 | _,_=>false
def beforeB (a b:List Int):Bool:=if a.length = b.length then lessB a b else decide (a.length < b.length)
def posBack (l:List Int) (out:List (List Int)):Nat -> Nat
 | 0=>0
 | n + 1=>if beforeB l (out.getD n []) then posBack l out n else n + 1
def insertBack (l:List Int) (out:List (List Int)):List (List Int):=out.take (posBack l out out.length) ++ [l] ++ out.drop (posBack l out out.length)
namespace Tree
def sets (t:Tree) (paths:Bool):List (List Int):=(List.range (2 ^ t.size)).foldl (fun out s=>if t.minimalB (bitsOf s) paths then insertBack (bitsOf s) out else out) []
end Tree
namespace Tree
end Tree
def factor (c:List Int) (s j:Nat):Int:=if s.testBit j then ix c j else 16 - ix c j
def partTo (c:List Int) (s:Nat):Nat -> Int
 | 0=>1
 | j + 1=>partTo c s j * factor c s j
def partOf (c:List Int) (s:Nat):Int:=partTo c s c.length
namespace Tree
def weightTo (t:Tree) (c:List Int):Nat -> Int
 | 0=>0
 | s + 1=>t.weightTo c s + if t.fails (evN s) then partOf c s else 0
def weight (t:Tree) (c:List Int):Int:=t.weightTo c (2 ^ t.size)
end Tree
structure Ratio where
 num:Int
 den:Int
deriving DecidableEq
def lowest (a b:Int):Ratio:=⟨a / (Int.gcd a b:Int),b / (Int.gcd a b:Int)⟩
def withEv (c:List Int) (l:List Int) (n:Int):List Int:=(List.range c.length).map fun (i:Nat)=>if has l i then n else ix c i
end Go.Tw
namespace Go.Proofs
open Go.RowKit Go.Tw
theorem Tryd.info3:(Tryd.prog.info? 3).map (fun i=>(i.zero,i.size,i.bytes)) = some (some (.int .i64 0),1,8):=by kernel_rfl
end Go.Proofs
namespace Go.Proofs
open Go.RowKit Go.Tw
def Q4h (a n:Nat):Nat:=a ^ n
def Q1o (s i:Nat):List Int:=((List.range i).filter (s.testBit ·)).map Int.ofNat
theorem Q6z (s i:Nat):Q1o s (i + 1) = Q1o s i ++ if s.testBit i then [(i:Int)] else []:=by
 unfold Q1o;rw [List.range_succ,List.filter_append,List.map_append];cases h:s.testBit i <;> simp [h]
theorem Q9c (s i:Nat):(Q1o s i).length <= i:=by
 unfold Q1o; rw [List.length_map]; exact Nat.le_trans (List.length_filter_le _ _) (by simp)
theorem X4w (s i:Nat) (h:s < 2 ^ i) (hi:i <= 16):Q1o s i = bitsOf s:=by
 have:∀ k,i <= k -> Q1o s k = Q1o s i:=by
  intro k hk
  induction k with
  | zero=>rw [show i = 0 from by omega]
  | succ k ih =>
    by_cases hik:i = k + 1
    . rw [hik]
    . rw [Q6z,ih (by omega),Nat.testBit_lt_two_pow (Nat.lt_of_lt_of_le h (Nat.pow_le_pow_right (by omega) (by omega)))]
      simp
 exact (this 16 hi).symm
end Go.Proofs
