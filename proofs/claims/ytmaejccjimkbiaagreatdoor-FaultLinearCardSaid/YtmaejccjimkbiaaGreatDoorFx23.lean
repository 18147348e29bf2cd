/- The region theorems with the frame under a name at every operation. Contracts: checkEvent, Importance. -/
import Derived.Test.YtmaejccjimkbiaaGreatDoorFx15
import Derived.Test.YtmaejccjimkbiaaGreatDoorFx22
set_option linter.unusedVariables false
set_option linter.unusedSimpArgs false
set_option linter.constructorNameAsVariable false
namespace Go.Flow
open Go.RowKit Go.Tw
def Y5r (P:Program) (ops:Array Oper) (pre:Nat → List Nat) (tail:List Nat) (w0:World) (D:Nat → (Nat → Value) → World → Prop):List ((Nat → Value) → World → World → Prop) → ((Nat → Value) → World → World → Prop) → List Oper → List Kind → List Nat → ((Nat → Value) → Act) → Prop
 | El,T,o :: l,k :: kl,j :: jl,b =>
   match k,El with
   | .last,E :: El=>(∀ v w1,Ext w0 w1 → Facts pre D v w1 ((pre j).filter fun i=>!tail.contains i) (∀ w,T v w1 w → ∀ bb,bb = b v → Guarded ops o bb (Due P pre D E .last o j bb v w1 w) (Pass pre D E .last j v w1 w))) ∧
      Y5r P ops pre tail w0 D El (fun v w1 w=>E (mask pre j v) w1 w) l kl jl (fun v=>(b v).put o.dst (v j))
   | .last,[]=>False
   | k,El=>(∀ v w1,Ext w0 w1 → Facts pre D v w1 (pre j) (∀ bb,bb = b v → Guarded ops o bb (Due P pre D (fun _ _ _=>False) k o j bb v w1 w1) (Pass pre D (fun _ _ _=>False) k j v w1 w1))) ∧ Y5r P ops pre tail w0 D El T l kl jl (fun v=>(b v).put o.dst (v j))
 | _,_,_,_,_,_=>True
theorem X2b {pre:Nat → List Nat} {D:Nat → (Nat → Value) → World → Prop} {v:Nat → Value} {w:World} {G G':Prop} (h:G → G'):∀ {l:List Nat},Facts pre D v w l G → Facts pre D v w l G'
 | [],hg=>h hg
 | _ :: _,hg=>fun hd=>X2b h (hg hd)
theorem X2f {P:Program} {ops:Array Oper} {pre:Nat → List Nat} {tail:List Nat} {w0:World} {D:Nat → (Nat → Value) → World → Prop}:∀ (l:List Oper) (kl:List Kind) (jl:List Nat) (El:List ((Nat → Value) → World → World → Prop)) (T:(Nat → Value) → World → World → Prop) (b:(Nat → Value) → Act),
    Y5r P ops pre tail w0 D El T l kl jl b → X4z P ops pre tail w0 D El T l kl jl b
 | [],_,_,_,_,_,_=>by simp [X4z]
 | _ :: _,[],_,_,_,_,_=>by simp [X4z]
 | _ :: _,_ :: _,[],_,_,_,_=>by simp [X4z]
 | o :: l,.last :: kl,j :: jl,E :: El,T,b,h=>⟨h.1,X2f l kl jl El _ _ h.2⟩
 | o :: l,.last :: kl,j :: jl,[],T,b,h=>h
 | o :: l,.plain :: kl,j :: jl,El,T,b,h=>⟨fun v w1 hx=>X2b (fun hg=>hg _ rfl) (h.1 v w1 hx),X2f l kl jl El _ _ h.2⟩
 | o :: l,.world :: kl,j :: jl,El,T,b,h=>⟨fun v w1 hx=>X2b (fun hg=>hg _ rfl) (h.1 v w1 hx),X2f l kl jl El _ _ h.2⟩
section
variable {P:Program} {ops:List Oper} {id:Nat} {Q:Exit → Act → World → Prop} {a0:Act} {w:World}
theorem Q3v (kl:List Kind) (jl:List Nat) (pl:List (List Nat)) (tail:List Nat) (Dl:List Spec) (El:List ((Nat → Value) → World → World → Prop))
    (hm:P.follows .mixedOrders = true) (hjl:jl = List.range' 0 ops.length) (hok:okL ops pl kl tail El.length = true)
    (hvc:Y5r P ops.toArray (lookup pl []) tail w.drew (fun k=>(lookup Dl .none k).D) El (fun _ w1 w=>w = w1) ops kl jl (fun _=>a0))
    (hpost:∀ v w1,Ext w.drew w1 → All (lookup pl []) (fun k=>(lookup Dl .none k).D) v w1 tail jl (∀ w',endOf (lookup pl []) v w1 w' tail El → Q .normal (acts v ops jl a0) w')) :
    (Code.region id ops.toArray true).wp P Q a0 w:=region kl jl pl tail Dl El hm hjl hok (X2f _ _ _ _ _ _ hvc) hpost
theorem Q3g (kl:List Kind) (jl:List Nat) (pl:List (List Nat)) (Dl:List Spec)
    (hm:P.follows .mixedOrders = true) (hjl:jl = List.range' 0 ops.length) (hok:okL ops pl kl [] 0 = true)
    (hvc:Y5r P ops.toArray (lookup pl []) [] w.drew (fun k=>(lookup Dl .none k).D) [] (fun _ w1 w=>w = w1) ops kl jl (fun _=>a0))
    (hpost:∀ v w1,Ext w.drew w1 → All (lookup pl []) (fun k=>(lookup Dl .none k).D) v w1 [] jl (Q .normal (acts v ops jl a0) w1)) :
    (Code.region id ops.toArray true).wp P Q a0 w:=Q7w kl jl pl Dl hm hjl hok (X2f _ _ _ _ _ _ hvc) hpost
theorem X9l {l n:Nat} (kl:List Kind) (jl:List Nat) (pl:List (List Nat)) (Dl:List Spec)
    (hm:P.follows .mixedOrders = true) (hnd:X8e ops = true) (hjl:jl = List.range' 0 ops.length) (hok:okL ops pl kl [] 0 = true)
    (hvc:Y5r P ops.toArray (lookup pl []) [] w.drew (fun k=>(lookup Dl .none k).D) [] (fun _ w1 w=>w = w1) ops kl jl (fun _=>a0))
    (hpost:∀ v w1,Ext w.drew w1 → All (lookup pl []) (fun k=>(lookup Dl .none k).D) v w1 [] jl (Q .normal (acts v ops jl a0) w1)) :
    (Code.region id ops.toArray true).wpIn (rnd l) n P Q a0 w:=Y4c kl jl pl Dl hm hnd hjl hok (X2f _ _ _ _ _ _ hvc) hpost
end
end Go.Flow
namespace Go.Proofs
open Go.RowKit Go.Tw Go.Flow
set_option maxRecDepth 100000 in
set_option maxHeartbeats 1000000 in
theorem Q5f (w:World) (v:Value) (t:Tree) (n:Int) (ht:IsTree w v t) :
    Calls Tryz.prog 88 #[v,.int .i64 n] w fun e w'=>e = .returned (.int .i64 (Q0i t [n])) ∧ Ext w w':=by
 obtain ⟨a,b,c,rfl,h3⟩:=ht;obtain ⟨A,capa,rfl,hl1,hcap1,_⟩:=h3.basics.opened;obtain ⟨B,capb,rfl,hl2,hcap2,_⟩:=h3.causes.opened;obtain ⟨G,capg,rfl,hl3,hcap3,_⟩:=h3.gates.opened;have HT0:=Lib.hid h3;clear h3;go_enter Tryz.func88,Tryz.ntmps88;go_wp2_with fail;change Calls _ _ _ ((w.alloc (.cells #[.slice A t.basics.length capa,.slice B t.causes.length capb,.slice G t.gates.length capg] 37)).alloc (.cells #[.int .i64 n] 3)) _;have k0:=Blk.made w 37 #[.slice A t.basics.length capa,.slice B t.causes.length capb,.slice G t.gates.length capg];have x0:=Ext.box w (.cells #[.slice A t.basics.length capa,.slice B t.causes.length capb,.slice G t.gates.length capg] 37);have es0:(w.alloc (.cells #[.slice A t.basics.length capa,.slice B t.causes.length capb,.slice G t.gates.length capg] 37)).heap.size = w.heap.size + 1:=by simp
 obtain ⟨X0,hX0⟩:∃ X,w.alloc (.cells #[.slice A t.basics.length capa,.slice B t.causes.length capb,.slice G t.gates.length capg] 37) = X:=⟨_,rfl⟩;rw [hX0] at k0 x0 es0 ⊢;clear hX0;have k1:=Blk.made X0 3 #[.int .i64 n];have x1:=Ext.box X0 (.cells #[.int .i64 n] 3);have es1:(X0.alloc (.cells #[.int .i64 n] 3)).heap.size = X0.heap.size + 1:=by simp
 obtain ⟨X1,hX1⟩:∃ X,X0.alloc (.cells #[.int .i64 n] 3) = X:=⟨_,rfl⟩;rw [hX1] at k1 x1 es1 ⊢;clear hX1;replace k0:=k0.ext x1;have e0:X0.heap.size = w.heap.size + 1:=by omega
 have e1:X1.heap.size = w.heap.size + 1 + 1:=by omega
 rw [e0] at k1;have HXW:Hid (Ext w X1):=by exact (Ext.trans (x0) x1:Ext w X1)
 have eW:X1.heap.size = w.heap.size + 1 + 1:=e1;clear x0 es0 e0 x1 es1 e1;obtain ⟨W,hWW⟩:∃ W,X1 = W:=⟨_,rfl⟩;rw [hWW] at HXW eW ⊢ k0 k1;clear hWW;have hii:Q0f W (.slice (some ⟨w.heap.size + 1,0,none⟩) 1 1) [n]:=⟨fun _=>.int .i64 n,⟨_,1,rfl,by simp,by simp,fun j hj=>⟨_,0,rfl,by have:j = 0:=(by simpa using hj); subst this; exact k1.cell 0⟩⟩,fun j hj=>by have:j = 0:=(by simpa using hj); subst this; rfl⟩
 refine (Q5j _ _ _ t [n] ⟨_,_,_,rfl,HT0.out.ext HXW.out⟩ hii).mono ?_;rintro e w1 ⟨rfl,hx1⟩;have HXX:=Lib.hid (HXW.out.trans hx1);obtain ⟨E,hE⟩:∃ E,Q0i t [n] = E:=⟨_,rfl⟩;have HEE:=Lib.hid hE;rw [hE];clear hE;go_wp2;go_ret;exact ⟨Q1f HEE.out.symm,HXX.out⟩
theorem Small.put {c l:List Int} (h:Small c) {n:Int} (h0:0 ≤ n) (h1:n ≤ 16):Small (Q0t c l n):=by
 refine ⟨by simpa [Go.Tw.Q0t] using h.len,fun x hx=>?_⟩
 obtain ⟨i,hi,rfl⟩:=List.mem_map.1 hx
 split
 · exact ⟨h0,h1⟩
 · exact h.ix (List.mem_range.1 hi)
theorem Q8a (c l:List Int) (n:Int):(Q0t c l n).length = c.length:=by simp [Q0t]
theorem Q4v (t:Tree):t.Q0b.length = t.size:=by simp [Tree.Q0b]
def Z2q (t:Tree) (n:Int):Int:=Q1g t (Q0t t.Q0b [n] 16) 0 - Q1g t (Q0t t.Q0b [n] 0) 0
def Q4e (t:Tree) (n:Int):Ratio:=if Q0i t [n] = 0 then lowest (Z2q t n) (Q5n 16 t.size) else ⟨0,0⟩
set_option maxRecDepth 100000 in
set_option maxHeartbeats 2000000 in
theorem X4r (w:World) (v:Value) (t:Tree) (n:Int) (ht:IsTree w v t) (hnn:Q0i t [n] = 0 → 0 ≤ Z2q t n) :
    Calls Tryz.prog 46 #[v,.int .i64 n] w fun e w'=>e = .returned (.tuple #[.agg (encR (Q4e t n)),.int .i64 (Q0i t [n])]) ∧ Ext w w':=by
 obtain ⟨a,b,c,rfl,h3⟩:=ht;obtain ⟨A,capa,rfl,hl1,hcap1,_⟩:=h3.basics.opened;obtain ⟨B,capb,rfl,hl2,hcap2,_⟩:=h3.causes.opened;obtain ⟨G,capg,rfl,hl3,hcap3,_⟩:=h3.gates.opened;have HT0:=Lib.hid h3;clear h3;go_enter Tryz.func46,Tryz.ntmps46;go_wp2_with fail;change Calls _ _ _ ((w.alloc (.cells #[.slice A t.basics.length capa,.slice B t.causes.length capb,.slice G t.gates.length capg] 37)).alloc (.cells #[.int .i64 0,.int .i64 0] 59)) _;have k0:=Blk.made w 37 #[.slice A t.basics.length capa,.slice B t.causes.length capb,.slice G t.gates.length capg];have x0:=Ext.box w (.cells #[.slice A t.basics.length capa,.slice B t.causes.length capb,.slice G t.gates.length capg] 37);have es0:(w.alloc (.cells #[.slice A t.basics.length capa,.slice B t.causes.length capb,.slice G t.gates.length capg] 37)).heap.size = w.heap.size + 1:=by simp
 obtain ⟨X0,hX0⟩:∃ X,w.alloc (.cells #[.slice A t.basics.length capa,.slice B t.causes.length capb,.slice G t.gates.length capg] 37) = X:=⟨_,rfl⟩;rw [hX0] at k0 x0 es0 ⊢;clear hX0;have k1:=Blk.made X0 59 #[.int .i64 0,.int .i64 0];have x1:=Ext.box X0 (.cells #[.int .i64 0,.int .i64 0] 59);have es1:(X0.alloc (.cells #[.int .i64 0,.int .i64 0] 59)).heap.size = X0.heap.size + 1:=by simp
 obtain ⟨X1,hX1⟩:∃ X,X0.alloc (.cells #[.int .i64 0,.int .i64 0] 59) = X:=⟨_,rfl⟩;rw [hX1] at k1 x1 es1 ⊢;clear hX1;replace k0:=k0.ext x1;have e0:X0.heap.size = w.heap.size + 1:=by omega
 have e1:X1.heap.size = w.heap.size + 1 + 1:=by omega
 rw [e0] at k1;have HXW:Hid (Ext w X1):=by exact (Ext.trans (x0) x1:Ext w X1)
 have eW:X1.heap.size = w.heap.size + 1 + 1:=e1;clear x0 es0 e0 x1 es1 e1;obtain ⟨W,hWW⟩:∃ W,X1 = W:=⟨_,rfl⟩;rw [hWW] at HXW eW ⊢ k0 k1;clear hWW;have HT:=Lib.hid (HT0.out.ext HXW.out);refine (Q5f _ _ t n ⟨_,_,_,rfl,HT.out⟩).mono ?_;rintro e w1 ⟨rfl,hx1⟩;have kt:=k0.ext hx1;have c0:=kt.cell 0;have c1:=kt.cell 1;have c2:=kt.cell 2;simp only [List.getElem?_toArray,List.getElem?_cons_zero,List.getElem?_cons_succ] at c0 c1 c2;have HXX:=Lib.hid (HXW.out.trans hx1);have HX1:=Lib.hid hx1;clear kt hx1;have hbr:=k1.ext HX1.out;clear k0 k1
 by_cases he:Q0i t [n] = 0
 · have hnn:=hnn he
   have HR:Hid (Q4e t n = lowest (Z2q t n) (Q5n 16 t.size)):=by exact (by unfold Q4e; rw [if_pos he]:Q4e t n = lowest (Z2q t n) (Q5n 16 t.size))
   have hz:=Q4d he;have hse:=Q2n hz.2;have hn0:=hse.1 n (List.mem_singleton.2 rfl);have HV:=Lib.hid hz.1;have HE0:=Lib.hid he;have hsz:=hz.1.size;have hne:(Q0i t [n] != 0) = false:=by simp [he]
   obtain ⟨E,hE⟩:∃ E,Q0i t [n] = E:=⟨_,rfl⟩;have HEE:=Lib.hid hE;rw [hE] at hne HE0 ⊢;clear he hz hse hE;go_wp2_with fail;refine (Q3o _ _ t HV.out ⟨_,_,_,rfl,HT.out.ext HX1.out⟩).mono ?_;rintro e w2 ⟨fv,gv,rfl,hn,hx2⟩;obtain ⟨A1,cap1,rfl,_,_,_⟩:=hn.fails.opened;obtain ⟨A2,cap2,rfl,_,_,_⟩:=hn.gates.opened;rw [Q2o] at hn ⊢;have HN:=Lib.hid hn;have HX2:=Lib.hid hx2;clear hn hx2 c0 c1 c2;replace hbr:=hbr.ext HX2.out;have hbl:=hbr.lt;go_wp2_with (first | (refine Q0j rfl _ 121 rfl Tryz.Q1s Tryz.Q0r rfl hb9 rfl ?_) | (refine Q2b rfl _ 116 rfl Tryz.Q6x Tryz.Q4a rfl (Q2a hb9) rfl ?_) | (refine Q0d rfl _ _ 121 rfl Tryz.Q0r rfl rfl (Blk.made _ _ _) rfl rfl ?_ ?_; (focus (intro u hu; simp [outA] at hu; rcases hu with rfl | rfl | rfl | rfl | rfl | rfl | rfl | rfl | rfl | rfl | rfl | rfl | rfl | rfl | rfl | rfl <;> rfl)); intro w9 hb9 hl9 ho9) | fail)
   have hx9:Ext w2 w9:=Below.trans (Ext.box w2 _) (hl9 _ (Nat.le_refl _));have HXX9:Hid (Ext w w9):=by exact (HXX.out.trans HX2.out).trans hx9
   have HN9:=Lib.hid (HN.out.ext hx9);replace hbr:=hbr.ext hx9;have HB9:=Lib.hid hb9;clear hl9 ho9 hb9 hx9;have hii:Q0f (w9.alloc (.cells #[.int .i64 n] 3)) (.slice (some ⟨w9.heap.size,0,none⟩) 1 1) [n]:=Q2m (l:=[n]) (by simp)
   have hx10:=Ext.box w9 (.cells #[.int .i64 n] 3);obtain ⟨W9,hW9⟩:∃ X,w9.alloc (.cells #[.int .i64 n] 3) = X:=⟨_,rfl⟩;rw [hW9] at hii hx10 ⊢;clear hW9;have HII:=Lib.hid hii;have HX10:=Lib.hid hx10;have HBR:=Lib.hid (hbr.ext hx10);have hbl10:=(hbr.ext hx10).lt;have hlen:=Q4v t;have hsm:=HV.out.small;have hin:∀ x ∈ [n],0 ≤ x ∧ x < t.Q0b.length:=by intro x hx; rw [List.mem_singleton] at hx; rw [hx,hlen]; exact hn0
   have hs16:=Small.put (l:=[n]) hsm (n:=16) (by omega) (by omega)
   have hs0:=Small.put (l:=[n]) hsm (n:=0) (by omega) (by omega)
   have hb16:=Q4z hs16 t 0 hsz;have hb0:=Q4z hs0 t 0 hsz;have hpb:=X4s hsz;unfold Z2q at hnn;have HIM:Hid (Z2q t n = Q1g t (Q0t t.Q0b [n] 16) 0 - Q1g t (Q0t t.Q0b [n] 0) 0):=by exact (rfl:Z2q t n = _)
   obtain ⟨m,hm⟩:∃ m,Q1g t (Q0t t.Q0b [n] 16) 0 = m:=⟨_,rfl⟩;obtain ⟨m',hm'⟩:∃ m,Q1g t (Q0t t.Q0b [n] 0) 0 = m:=⟨_,rfl⟩;obtain ⟨d,hd⟩:∃ d,Q5n 16 t.size = d:=⟨_,rfl⟩;have HS16:Hid (∀ w',Ext W9 w' → Calls Tryz.prog 98 #[chV t.Q0b,.slice (some ⟨w9.heap.size,0,none⟩) 1 1,.int .i64 16] w' fun e w''=>e = .returned (chV (Q0t t.Q0b [n] 16)) ∧ Ext w' w''):=by
    exact (fun w' hx=>set_any w' t.Q0b [n] _ 16 (HII.out.ext hx) (by rw [hlen]; exact hsz) hin:∀ w',Ext W9 w' → Calls Tryz.prog 98 #[chV t.Q0b,.slice (some ⟨w9.heap.size,0,none⟩) 1 1,.int .i64 16] w' fun e w''=>e = .returned (chV (Q0t t.Q0b [n] 16)) ∧ Ext w' w'')
   have HS0:Hid (∀ w',Ext W9 w' → Calls Tryz.prog 98 #[chV t.Q0b,.slice (some ⟨w9.heap.size,0,none⟩) 1 1,.int .i64 0] w' fun e w''=>e = .returned (chV (Q0t t.Q0b [n] 0)) ∧ Ext w' w''):=by
    exact (fun w' hx=>set_any w' t.Q0b [n] _ 0 (HII.out.ext hx) (by rw [hlen]; exact hsz) hin:∀ w',Ext W9 w' → Calls Tryz.prog 98 #[chV t.Q0b,.slice (some ⟨w9.heap.size,0,none⟩) 1 1,.int .i64 0] w' fun e w''=>e = .returned (chV (Q0t t.Q0b [n] 0)) ∧ Ext w' w'')
   have HW16:Hid (∀ w',Ext w9 w' → Calls Tryz.prog 100 #[noV t t.Q0b (.slice A1 t.size cap1) (.slice A2 t.gates.length cap2),chV (Q0t t.Q0b [n] 16),.int .i64 0] w' fun e w''=>e = .returned (.int .i64 m) ∧ Ext w' w''):=by
    exact (by intro w' hx; rw [← hm]; exact Q4u w' _ _ t t.Q0b _ 0 HV.out (HN9.out.ext hx) hs16 (by rw [Q8a,hlen]) (by omega):∀ w',Ext w9 w' → Calls Tryz.prog 100 #[noV t t.Q0b (.slice A1 t.size cap1) (.slice A2 t.gates.length cap2),chV (Q0t t.Q0b [n] 16),.int .i64 0] w' fun e w''=>e = .returned (.int .i64 m) ∧ Ext w' w'')
   have HW0:Hid (∀ w',Ext w9 w' → Calls Tryz.prog 100 #[noV t t.Q0b (.slice A1 t.size cap1) (.slice A2 t.gates.length cap2),chV (Q0t t.Q0b [n] 0),.int .i64 0] w' fun e w''=>e = .returned (.int .i64 m') ∧ Ext w' w''):=by
    exact (by intro w' hx; rw [← hm']; exact Q4u w' _ _ t t.Q0b _ 0 HV.out (HN9.out.ext hx) hs0 (by rw [Q8a,hlen]) (by omega):∀ w',Ext w9 w' → Calls Tryz.prog 100 #[noV t t.Q0b (.slice A1 t.size cap1) (.slice A2 t.gates.length cap2),chV (Q0t t.Q0b [n] 0),.int .i64 0] w' fun e w''=>e = .returned (.int .i64 m') ∧ Ext w' w'')
   have HP:Hid (∀ w',Calls Tryz.prog 101 #[noV t t.Q0b (.slice A1 t.size cap1) (.slice A2 t.gates.length cap2)] w' fun e w''=>e = .returned (.int .i64 d) ∧ Ext w' w''):=by
    exact (by intro w'; rw [← hd]; exact X0x w' t t.Q0b A1 A2 _ _ _ _ hsz:∀ w',Calls Tryz.prog 101 #[noV t t.Q0b (.slice A1 t.size cap1) (.slice A2 t.gates.length cap2)] w' fun e w''=>e = .returned (.int .i64 d) ∧ Ext w' w'')
   rw [hm,hm'] at hnn HIM;rw [hd] at HR hpb;rw [HIM.out] at HR;rw [hm] at hb16;rw [hm'] at hb0;have hwd:IntKind.i64.wrap (m - m') = m - m':=wrap_in (by omega) (by omega)
   have hdr:=HX10.out.trans (Ext.refl W9).drew;clear hm hm' hd hs16 hs0 hsm hin hlen hii hbr hx10 HIM;refine Flow.Q3v [.world,.plain,.plain,.world,.plain,.world,.world,.world,.plain,.plain,.world,.plain,.world,.world,.plain,.world,.world,.world,.last,.last] [0,1,2,3,4,5,6,7,8,9,10,11,12,13,14,15,16,17,18,19] [[],[],[1],[1,2],[],[1,2,3,4],[0,1,2,3,4,5],[],[],[8],[8,9],[],[0,1,2,3,4,5,6,8,9,10,11],[0,1,2,3,4,5,6,7,8,9,10,11,12],[0,1,2,3,4,5,6,7,8,9,10,11,12,13],[],[0,1,2,3,4,5,6,7,8,9,10,11,12,13,15],[0,1,2,3,4,5,6,7,8,9,10,11,12,13,14,15,16],[0,1,2,3,4,5,6,7,8,9,10,11,12,13,14,15,16,17],[0,1,2,3,4,5,6,7,8,9,10,11,12,13,14,15,16,17,18]] [18,19]
    [.is 0 (fun v=>noV t t.Q0b (.slice A1 t.size cap1) (.slice A2 t.gates.length cap2)),.is 1 (fun v=>.pointer (some ⟨w2.heap.size,0,none⟩)),.is 2 (fun v=>.pointer (some ⟨w2.heap.size,2,none⟩)),.is 3 (fun v=>chV t.Q0b),.is 4 (fun v=>.slice (some ⟨w9.heap.size,0,none⟩) 1 1),.is 5 (fun v=>chV (Q0t t.Q0b [n] 16)),.is 6 (fun v=>.int .i64 m),.is 7 (fun v=>noV t t.Q0b (.slice A1 t.size cap1) (.slice A2 t.gates.length cap2)),.is 8 (fun v=>.pointer (some ⟨w2.heap.size,0,none⟩)),.is 9 (fun v=>.pointer (some ⟨w2.heap.size,2,none⟩)),.is 10 (fun v=>chV t.Q0b),.is 11 (fun v=>.slice (some ⟨w9.heap.size,0,none⟩) 1 1),.is 12 (fun v=>chV (Q0t t.Q0b [n] 0)),.is 13 (fun v=>.int .i64 m'),.is 14 (fun v=>.int .i64 (m - m')),.is 15 (fun v=>noV t t.Q0b (.slice A1 t.size cap1) (.slice A2 t.gates.length cap2)),.is 16 (fun v=>.int .i64 d),.is 17 (fun v=>.agg (Q5o (m - m') d)),.none,.none]
    [fun v w1 w'=>Blk w' (w.heap.size + 1) 59 (Q5o (m - m') d) ∧ Below w.heap.size w1 w',fun v w1 w'=>v 19 = .int .i64 0 ∧ Blk w' (w.heap.size + 1) 59 (Q5o (m - m') d) ∧ Below w.heap.size w1 w'] (by kernel_rfl) rfl (by kernel_rfl) ⟨?g0,?g1,?g2,?g3,?g4,?g5,?g6,?g7,?g8,?g9,?g10,?g11,?g12,?g13,?g14,?g15,?g16,?g17,?g18,?g19,trivial⟩ ?post
   case g0 =>
    intro v w1 hx;intro bb hbb;intro K hK;have o1:bb.eval (.tmp 7) = .pointer (some ⟨w2.heap.size,0,none⟩):=by rw [hbb]; dsimp only; (try simp (discharger:=decide) only [eval_put_ne]); rfl
    exact Q0n (.tmp 7) _ rfl Tryz.Q1s Tryz.Q0r o1 (HB9.out.ext (hdr.trans hx)) rfl (hK _ _ (Ext.refl _) rfl)
   case g1 =>
    intro v w1 hx;intro bb hbb;subst hbb;refine ⟨_,fun w=>?_,rfl⟩;go_simp
   case g2 =>
    intro v w1 hx (q1:v 1 = .pointer (some ⟨w2.heap.size,0,none⟩));intro bb hbb;subst hbb;refine ⟨_,fun w=>?_,rfl⟩;go_simp
   case g3 =>
    intro v w1 hx (q1:v 1 = .pointer (some ⟨w2.heap.size,0,none⟩)) (q2:v 2 = .pointer (some ⟨w2.heap.size,2,none⟩));intro bb hbb;intro K hK;have o1:bb.eval (.tmp 22) = .pointer (some ⟨w2.heap.size,2,none⟩):=by rw [hbb]; dsimp only; (try simp (discharger:=decide) only [eval_put_ne]); rw [Q0a (by simp only [size_put]; exact (by decide:22 < 38))]; exact q2
    exact Q3b (.tmp 22) _ rfl Tryz.Q6x Tryz.Q4a o1 ((Q2a HB9.out).ext (hdr.trans hx)) rfl (hK _ _ (Ext.refl _) rfl)
   case g4 =>
    intro v w1 hx;intro bb hbb;subst hbb;refine ⟨_,fun w=>?_,rfl⟩;go_simp
   case g5 =>
    intro v w1 hx (q1:v 1 = .pointer (some ⟨w2.heap.size,0,none⟩)) (q2:v 2 = .pointer (some ⟨w2.heap.size,2,none⟩)) (q3:v 3 = chV t.Q0b) (q4:v 4 = .slice (some ⟨w9.heap.size,0,none⟩) 1 1);intro bb hbb;subst hbb;intro K hK;go_simp;refine Q0e (HS16.out _ ((Ext.refl W9).drew.trans hx)) ?_;rintro e w2 ⟨rfl,hx2⟩;exact ⟨_,rfl,hK _ _ hx2 rfl⟩
   case g6 =>
    intro v w1 hx (q0:v 0 = noV t t.Q0b (.slice A1 t.size cap1) (.slice A2 t.gates.length cap2)) (q1:v 1 = .pointer (some ⟨w2.heap.size,0,none⟩)) (q2:v 2 = .pointer (some ⟨w2.heap.size,2,none⟩)) (q3:v 3 = chV t.Q0b) (q4:v 4 = .slice (some ⟨w9.heap.size,0,none⟩) 1 1) (q5:v 5 = chV (Q0t t.Q0b [n] 16));intro bb hbb;subst hbb;intro K hK;go_simp;refine Q0e (HW16.out _ (hdr.trans hx)) ?_;rintro e w2 ⟨rfl,hx2⟩;exact ⟨_,rfl,hK _ _ hx2 rfl⟩
   case g7 =>
    intro v w1 hx;intro bb hbb;intro K hK;have o1:bb.eval (.tmp 7) = .pointer (some ⟨w2.heap.size,0,none⟩):=by rw [hbb]; dsimp only; (try simp (discharger:=decide) only [eval_put_ne]); rfl
    exact Q0n (.tmp 7) _ rfl Tryz.Q1s Tryz.Q0r o1 (HB9.out.ext (hdr.trans hx)) rfl (hK _ _ (Ext.refl _) rfl)
   case g8 =>
    intro v w1 hx;intro bb hbb;subst hbb;refine ⟨_,fun w=>?_,rfl⟩;go_simp
   case g9 =>
    intro v w1 hx (q8:v 8 = .pointer (some ⟨w2.heap.size,0,none⟩));intro bb hbb;subst hbb;refine ⟨_,fun w=>?_,rfl⟩;go_simp
   case g10 =>
    intro v w1 hx (q8:v 8 = .pointer (some ⟨w2.heap.size,0,none⟩)) (q9:v 9 = .pointer (some ⟨w2.heap.size,2,none⟩));intro bb hbb;intro K hK;have o1:bb.eval (.tmp 29) = .pointer (some ⟨w2.heap.size,2,none⟩):=by rw [hbb]; dsimp only; (try simp (discharger:=decide) only [eval_put_ne]); rw [Q0a (by simp only [size_put]; exact (by decide:29 < 38))]; exact q9
    exact Q3b (.tmp 29) _ rfl Tryz.Q6x Tryz.Q4a o1 ((Q2a HB9.out).ext (hdr.trans hx)) rfl (hK _ _ (Ext.refl _) rfl)
   case g11 =>
    intro v w1 hx;intro bb hbb;subst hbb;refine ⟨_,fun w=>?_,rfl⟩;go_simp
   case g12 =>
    intro v w1 hx (q0:v 0 = noV t t.Q0b (.slice A1 t.size cap1) (.slice A2 t.gates.length cap2)) (q1:v 1 = .pointer (some ⟨w2.heap.size,0,none⟩)) (q2:v 2 = .pointer (some ⟨w2.heap.size,2,none⟩)) (q3:v 3 = chV t.Q0b) (q4:v 4 = .slice (some ⟨w9.heap.size,0,none⟩) 1 1) (q5:v 5 = chV (Q0t t.Q0b [n] 16)) (q6:v 6 = .int .i64 m) (q8:v 8 = .pointer (some ⟨w2.heap.size,0,none⟩)) (q9:v 9 = .pointer (some ⟨w2.heap.size,2,none⟩)) (q10:v 10 = chV t.Q0b) (q11:v 11 = .slice (some ⟨w9.heap.size,0,none⟩) 1 1);intro bb hbb;subst hbb;intro K hK;go_simp;refine Q0e (HS0.out _ ((Ext.refl W9).drew.trans hx)) ?_;rintro e w2 ⟨rfl,hx2⟩;exact ⟨_,rfl,hK _ _ hx2 rfl⟩
   case g13 =>
    intro v w1 hx (q0:v 0 = noV t t.Q0b (.slice A1 t.size cap1) (.slice A2 t.gates.length cap2)) (q1:v 1 = .pointer (some ⟨w2.heap.size,0,none⟩)) (q2:v 2 = .pointer (some ⟨w2.heap.size,2,none⟩)) (q3:v 3 = chV t.Q0b) (q4:v 4 = .slice (some ⟨w9.heap.size,0,none⟩) 1 1) (q5:v 5 = chV (Q0t t.Q0b [n] 16)) (q6:v 6 = .int .i64 m) (q7:v 7 = noV t t.Q0b (.slice A1 t.size cap1) (.slice A2 t.gates.length cap2)) (q8:v 8 = .pointer (some ⟨w2.heap.size,0,none⟩)) (q9:v 9 = .pointer (some ⟨w2.heap.size,2,none⟩)) (q10:v 10 = chV t.Q0b) (q11:v 11 = .slice (some ⟨w9.heap.size,0,none⟩) 1 1) (q12:v 12 = chV (Q0t t.Q0b [n] 0));intro bb hbb;subst hbb;intro K hK;go_simp;refine Q0e (HW0.out _ (hdr.trans hx)) ?_;rintro e w2 ⟨rfl,hx2⟩;exact ⟨_,rfl,hK _ _ hx2 rfl⟩
   case g14 =>
    intro v w1 hx (q0:v 0 = noV t t.Q0b (.slice A1 t.size cap1) (.slice A2 t.gates.length cap2)) (q1:v 1 = .pointer (some ⟨w2.heap.size,0,none⟩)) (q2:v 2 = .pointer (some ⟨w2.heap.size,2,none⟩)) (q3:v 3 = chV t.Q0b) (q4:v 4 = .slice (some ⟨w9.heap.size,0,none⟩) 1 1) (q5:v 5 = chV (Q0t t.Q0b [n] 16)) (q6:v 6 = .int .i64 m) (q7:v 7 = noV t t.Q0b (.slice A1 t.size cap1) (.slice A2 t.gates.length cap2)) (q8:v 8 = .pointer (some ⟨w2.heap.size,0,none⟩)) (q9:v 9 = .pointer (some ⟨w2.heap.size,2,none⟩)) (q10:v 10 = chV t.Q0b) (q11:v 11 = .slice (some ⟨w9.heap.size,0,none⟩) 1 1) (q12:v 12 = chV (Q0t t.Q0b [n] 0)) (q13:v 13 = .int .i64 m');intro bb hbb;subst hbb;refine ⟨_,fun w=>?_,rfl⟩;go_simp
   case g15 =>
    intro v w1 hx;intro bb hbb;intro K hK;have o1:bb.eval (.tmp 7) = .pointer (some ⟨w2.heap.size,0,none⟩):=by rw [hbb]; dsimp only; (try simp (discharger:=decide) only [eval_put_ne]); rfl
    exact Q0n (.tmp 7) _ rfl Tryz.Q1s Tryz.Q0r o1 (HB9.out.ext (hdr.trans hx)) rfl (hK _ _ (Ext.refl _) rfl)
   case g16 =>
    intro v w1 hx (q0:v 0 = noV t t.Q0b (.slice A1 t.size cap1) (.slice A2 t.gates.length cap2)) (q1:v 1 = .pointer (some ⟨w2.heap.size,0,none⟩)) (q2:v 2 = .pointer (some ⟨w2.heap.size,2,none⟩)) (q3:v 3 = chV t.Q0b) (q4:v 4 = .slice (some ⟨w9.heap.size,0,none⟩) 1 1) (q5:v 5 = chV (Q0t t.Q0b [n] 16)) (q6:v 6 = .int .i64 m) (q7:v 7 = noV t t.Q0b (.slice A1 t.size cap1) (.slice A2 t.gates.length cap2)) (q8:v 8 = .pointer (some ⟨w2.heap.size,0,none⟩)) (q9:v 9 = .pointer (some ⟨w2.heap.size,2,none⟩)) (q10:v 10 = chV t.Q0b) (q11:v 11 = .slice (some ⟨w9.heap.size,0,none⟩) 1 1) (q12:v 12 = chV (Q0t t.Q0b [n] 0)) (q13:v 13 = .int .i64 m') (q15:v 15 = noV t t.Q0b (.slice A1 t.size cap1) (.slice A2 t.gates.length cap2));intro bb hbb;subst hbb;intro K hK;go_simp;refine Q0e (HP.out _) ?_;rintro e w2 ⟨rfl,hx2⟩;exact ⟨_,rfl,hK _ _ hx2 rfl⟩
   case g17 =>
    intro v w1 hx (q0:v 0 = noV t t.Q0b (.slice A1 t.size cap1) (.slice A2 t.gates.length cap2)) (q1:v 1 = .pointer (some ⟨w2.heap.size,0,none⟩)) (q2:v 2 = .pointer (some ⟨w2.heap.size,2,none⟩)) (q3:v 3 = chV t.Q0b) (q4:v 4 = .slice (some ⟨w9.heap.size,0,none⟩) 1 1) (q5:v 5 = chV (Q0t t.Q0b [n] 16)) (q6:v 6 = .int .i64 m) (q7:v 7 = noV t t.Q0b (.slice A1 t.size cap1) (.slice A2 t.gates.length cap2)) (q8:v 8 = .pointer (some ⟨w2.heap.size,0,none⟩)) (q9:v 9 = .pointer (some ⟨w2.heap.size,2,none⟩)) (q10:v 10 = chV t.Q0b) (q11:v 11 = .slice (some ⟨w9.heap.size,0,none⟩) 1 1) (q12:v 12 = chV (Q0t t.Q0b [n] 0)) (q13:v 13 = .int .i64 m') (q14:v 14 = .int .i64 (m - m')) (q15:v 15 = noV t t.Q0b (.slice A1 t.size cap1) (.slice A2 t.gates.length cap2)) (q16:v 16 = .int .i64 d);intro bb hbb;subst hbb;intro K hK;go_simp;refine Q0e (Q7z _ (m - m') d hnn (by omega) (by omega) (by omega)) ?_
    rintro e w2 ⟨rfl,hx2⟩;exact ⟨_,rfl,hK _ _ hx2 rfl⟩
   case g18 =>
    intro v w1 hx (q0:v 0 = noV t t.Q0b (.slice A1 t.size cap1) (.slice A2 t.gates.length cap2)) (q1:v 1 = .pointer (some ⟨w2.heap.size,0,none⟩)) (q2:v 2 = .pointer (some ⟨w2.heap.size,2,none⟩)) (q3:v 3 = chV t.Q0b) (q4:v 4 = .slice (some ⟨w9.heap.size,0,none⟩) 1 1) (q5:v 5 = chV (Q0t t.Q0b [n] 16)) (q6:v 6 = .int .i64 m) (q7:v 7 = noV t t.Q0b (.slice A1 t.size cap1) (.slice A2 t.gates.length cap2)) (q8:v 8 = .pointer (some ⟨w2.heap.size,0,none⟩)) (q9:v 9 = .pointer (some ⟨w2.heap.size,2,none⟩)) (q10:v 10 = chV t.Q0b) (q11:v 11 = .slice (some ⟨w9.heap.size,0,none⟩) 1 1) (q12:v 12 = chV (Q0t t.Q0b [n] 0)) (q13:v 13 = .int .i64 m') (q14:v 14 = .int .i64 (m - m')) (q15:v 15 = noV t t.Q0b (.slice A1 t.size cap1) (.slice A2 t.gates.length cap2)) (q16:v 16 = .int .i64 d) (q17:v 17 = .agg (Q5o (m - m') d));intro wl hT;obtain rfl:wl = w1:=hT;intro bb hbb;intro K hK;have o1:bb.eval (.tmp 4) = .pointer (some ⟨w.heap.size + 1,0,none⟩):=by rw [hbb]; dsimp only; (try simp (discharger:=decide) only [eval_put_ne]); rfl
    have o2:bb.eval (.tmp 37) = .agg (Q5o (m - m') d):=by rw [hbb]; dsimp only; (try simp (discharger:=decide) only [eval_put_ne]); rw [Q0a (by simp only [size_put]; exact (by decide:37 < 38))]; exact q17
    exact Q2p (.tmp 4) (.tmp 37) _ rfl Tryz.Q1v o1 o2 (HBR.out.ext ((Ext.refl W9).drew.trans hx)) rfl rfl (Q5t _ _) (fun vv w' hb hl ho=>hK _ _ ⟨hb,hl _ (by omega)⟩)
   case g19 =>
    intro v w1 hx (q0:v 0 = noV t t.Q0b (.slice A1 t.size cap1) (.slice A2 t.gates.length cap2)) (q1:v 1 = .pointer (some ⟨w2.heap.size,0,none⟩)) (q2:v 2 = .pointer (some ⟨w2.heap.size,2,none⟩)) (q3:v 3 = chV t.Q0b) (q4:v 4 = .slice (some ⟨w9.heap.size,0,none⟩) 1 1) (q5:v 5 = chV (Q0t t.Q0b [n] 16)) (q6:v 6 = .int .i64 m) (q7:v 7 = noV t t.Q0b (.slice A1 t.size cap1) (.slice A2 t.gates.length cap2)) (q8:v 8 = .pointer (some ⟨w2.heap.size,0,none⟩)) (q9:v 9 = .pointer (some ⟨w2.heap.size,2,none⟩)) (q10:v 10 = chV t.Q0b) (q11:v 11 = .slice (some ⟨w9.heap.size,0,none⟩) 1 1) (q12:v 12 = chV (Q0t t.Q0b [n] 0)) (q13:v 13 = .int .i64 m') (q14:v 14 = .int .i64 (m - m')) (q15:v 15 = noV t t.Q0b (.slice A1 t.size cap1) (.slice A2 t.gates.length cap2)) (q16:v 16 = .int .i64 d) (q17:v 17 = .agg (Q5o (m - m') d));intro wl hT;replace hT:(fun v w1 w'=>Blk w' (w.heap.size + 1) 59 (Q5o (m - m') d) ∧ Below w.heap.size w1 w') v w1 wl:=hT;intro bb hbb;subst hbb;intro K hK;go_simp;exact hK _ _ ⟨rfl,hT⟩
   case post =>
    intro v w1 hx (q0:v 0 = noV t t.Q0b (.slice A1 t.size cap1) (.slice A2 t.gates.length cap2)) (q1:v 1 = .pointer (some ⟨w2.heap.size,0,none⟩)) (q2:v 2 = .pointer (some ⟨w2.heap.size,2,none⟩)) (q3:v 3 = chV t.Q0b) (q4:v 4 = .slice (some ⟨w9.heap.size,0,none⟩) 1 1) (q5:v 5 = chV (Q0t t.Q0b [n] 16)) (q6:v 6 = .int .i64 m) (q7:v 7 = noV t t.Q0b (.slice A1 t.size cap1) (.slice A2 t.gates.length cap2)) (q8:v 8 = .pointer (some ⟨w2.heap.size,0,none⟩)) (q9:v 9 = .pointer (some ⟨w2.heap.size,2,none⟩)) (q10:v 10 = chV t.Q0b) (q11:v 11 = .slice (some ⟨w9.heap.size,0,none⟩) 1 1) (q12:v 12 = chV (Q0t t.Q0b [n] 0)) (q13:v 13 = .int .i64 m') (q14:v 14 = .int .i64 (m - m')) (q15:v 15 = noV t t.Q0b (.slice A1 t.size cap1) (.slice A2 t.gates.length cap2)) (q16:v 16 = .int .i64 d) (q17:v 17 = .agg (Q5o (m - m') d));intro w2 hE;replace hE:(fun v w1 w'=>v 19 = .int .i64 0 ∧ Blk w' (w.heap.size + 1) 59 (Q5o (m - m') d) ∧ Below w.heap.size w1 w') v w1 w2:=hE;simp only [Flow.acts,Act.put];go_simp;obtain ⟨hz9,hb8,hl8⟩:=hE;go_wp2;refine bodyPost_ret (Q0o Tryz.results46 rfl hb8 Tryz.Q5e Tryz.Q1v rfl) rfl ?_;exact ⟨by rw [HR.out,HEE.out,HE0.out]; simp [hz9]; rfl,Below.trans (HXX9.out.trans (hdr.trans hx)) hl8⟩
 · clear hnn
   have HR:Hid (Q4e t n = ⟨0,0⟩):=by exact (by unfold Q4e; rw [if_neg he]:Q4e t n = ⟨0,0⟩)
   have hne:(Q0i t [n] != 0) = true:=by simp [he]
   obtain ⟨E,hE⟩:∃ E,Q0i t [n] = E:=⟨_,rfl⟩;have HEE:=Lib.hid hE;rw [hE] at hne ⊢;clear he hE;go_wp2_with (refine Q0d rfl _ _ _ rfl Tryz.Q1v rfl rfl hbr rfl rfl ?_ ?_; (focus (exact Q7e ⟨0,0⟩)); intro w8 hb8 hl8 ho8);refine bodyPost_ret (Q0o Tryz.results46 rfl hb8 Tryz.Q5e Tryz.Q1v rfl) rfl ?_;exact ⟨by rw [HR.out,HEE.out]; rfl,Below.trans HXX.out (hl8 _ (by omega))⟩
end Go.Proofs
