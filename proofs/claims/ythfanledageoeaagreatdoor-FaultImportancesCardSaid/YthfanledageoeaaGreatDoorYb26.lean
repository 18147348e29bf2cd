/- Contracts: Chance. The region theorems with the frame under a name at every operation. -/
import Derived.Test.YthfanledageoeaaGreatDoorYb25
import Derived.Test.YthfanledageoeaaGreatDoorYb19
set_option linter.unusedVariables false
set_option linter.unusedSimpArgs false
set_option linter.constructorNameAsVariable false
namespace Go.Proofs
open Go.RowKit Go.Tw Go.Flow
def encR (r:Ratio):Array Value:=#[.int .i64 r.num,.int .i64 r.den]
theorem encR_one (r:Ratio):∀ u ∈ (encR r).toList,u.oneCell' = true:=by
 intro u hu
 simp only [encR,List.mem_cons,List.not_mem_nil,or_false] at hu
 rcases hu with rfl | rfl <;> rfl
theorem results_blk_tmp {P:Program} {fn:Func} {p q:Tmp} {T:TypeId} (h:fn.results = #[.cell p T,.tmp q]) {tmps:Array Value} {w:World} {g:Nat} (ht:tmps.getD p undef = .pointer (some ⟨g,0,none⟩)) {BT:TypeId} {cs:Array Value} (hb:Blk w g BT cs)
    (hA:∀ w,(isAgg T).run P w = .ok true w) (hS:∀ w,(sizeOf T).run P w = .ok cs.size w) {v:Value} (hq:tmps.getD q undef = v):(results fn tmps).run P w = .ok (.tuple #[.agg cs,v]) w:=by
 unfold results
 rw [h]
 simp only [List.mapM_toArray,List.mapM_cons,List.mapM_nil,Sem.run_bind,Sem.run_pure,ht,hq,asAddr]
 simp [run_loadVar_blk hb hA hS]
def chanceR (t:Tree):Ratio:=if t.err = 0 then lowest (weightW t t.chances 0) (powN 16 t.size) else ⟨0,0⟩
set_option maxRecDepth 100000 in
set_option maxHeartbeats 1000000 in
theorem pChance_any (w:World) (v:Value) (t:Tree) (ht:IsTree w v t) :
    Calls Tryz.prog 27 #[v] w fun e w'=>e = .returned (.tuple #[.agg (encR (chanceR t)),.int .i64 t.err]) ∧ Ext w w':=by
 obtain ⟨a,b,c,rfl,h3⟩:=ht
 obtain ⟨A,capa,rfl,hl1,hcap1,_⟩:=h3.basics.opened
 obtain ⟨B,capb,rfl,hl2,hcap2,_⟩:=h3.causes.opened
 obtain ⟨G,capg,rfl,hl3,hcap3,_⟩:=h3.gates.opened
 have HT0:=Lib.hid h3
 clear h3
 go_enter Tryz.func27,Tryz.ntmps27
 go_wp2_with fail
 change Calls _ _ _ ((w.alloc (.cells #[.slice A t.basics.length capa,.slice B t.causes.length capb,.slice G t.gates.length capg] 37)).alloc (.cells #[.int .i64 0,.int .i64 0] 56)) _
 have k0:=Blk.made w 37 #[.slice A t.basics.length capa,.slice B t.causes.length capb,.slice G t.gates.length capg]
 have x0:=Ext.box w (.cells #[.slice A t.basics.length capa,.slice B t.causes.length capb,.slice G t.gates.length capg] 37)
 have es0:(w.alloc (.cells #[.slice A t.basics.length capa,.slice B t.causes.length capb,.slice G t.gates.length capg] 37)).heap.size = w.heap.size + 1:=by simp
 obtain ⟨X0,hX0⟩:∃ X,w.alloc (.cells #[.slice A t.basics.length capa,.slice B t.causes.length capb,.slice G t.gates.length capg] 37) = X:=⟨_,rfl⟩
 rw [hX0] at k0 x0 es0 ⊢
 clear hX0
 have k1:=Blk.made X0 56 #[.int .i64 0,.int .i64 0]
 have x1:=Ext.box X0 (.cells #[.int .i64 0,.int .i64 0] 56)
 have es1:(X0.alloc (.cells #[.int .i64 0,.int .i64 0] 56)).heap.size = X0.heap.size + 1:=by simp
 obtain ⟨X1,hX1⟩:∃ X,X0.alloc (.cells #[.int .i64 0,.int .i64 0] 56) = X:=⟨_,rfl⟩
 rw [hX1] at k1 x1 es1 ⊢
 clear hX1
 replace k0:=k0.ext x1
 have e0:X0.heap.size = w.heap.size + 1:=by omega
 have e1:X1.heap.size = w.heap.size + 1 + 1:=by omega
 rw [e0] at k1
 have HXW:Hid (Ext w X1):=by exact (Ext.trans (x0) x1:Ext w X1)
 have eW:X1.heap.size = w.heap.size + 1 + 1:=e1
 clear x0 es0 e0 x1 es1 e1
 obtain ⟨W,hWW⟩:∃ W,X1 = W:=⟨_,rfl⟩
 rw [hWW] at HXW eW ⊢ k0 k1
 clear hWW
 have HT:=Lib.hid (HT0.out.ext HXW.out)
 refine (CheckTree_any _ _ t ⟨_,_,_,rfl,HT.out⟩).mono ?_
 rintro e w1 ⟨rfl,hx1⟩
 have kt:=k0.ext hx1
 have c0:=kt.cell 0
 have c1:=kt.cell 1
 have c2:=kt.cell 2
 simp only [List.getElem?_toArray,List.getElem?_cons_zero,List.getElem?_cons_succ] at c0 c1 c2
 have HXX:=Lib.hid (HXW.out.trans hx1)
 have HX1:=Lib.hid hx1
 clear kt hx1
 have hbr:=k1.ext HX1.out
 clear k0 k1
 by_cases he:t.err = 0
 · have HR:Hid (chanceR t = lowest (weightW t t.chances 0) (powN 16 t.size)):=by exact (by unfold chanceR; rw [if_pos he]:chanceR t = lowest (weightW t t.chances 0) (powN 16 t.size))
   have hV:=Valid.of he
   have HV:=Lib.hid hV
   have HE0:=Lib.hid he
   have hsz:=hV.size
   have hne:(t.err != 0) = false:=by simp [he]
   clear he hV
   go_wp2_with fail
   refine (nodes_any _ _ t HV.out ⟨_,_,_,rfl,HT.out.ext HX1.out⟩).mono ?_
   rintro e w2 ⟨fv,gv,rfl,hn,hx2⟩
   obtain ⟨A1,cap1,rfl,_,_,_⟩:=hn.fails.opened
   obtain ⟨A2,cap2,rfl,_,_,_⟩:=hn.gates.opened
   rw [masks_len] at hn ⊢
   have HN:=Lib.hid hn
   have HX2:=Lib.hid hx2
   clear hn hx2 c0 c1 c2
   replace hbr:=hbr.ext HX2.out
   have hbl:=hbr.lt
   go_wp2_with (first | (refine wpList_load_blk rfl _ 110 rfl Tryz.aggNodes Tryz.sizeNodes rfl hb9 rfl ?_) | (refine wpList_load_part rfl _ 105 rfl Tryz.aggCh Tryz.sizeCh rfl (chances_part hb9) rfl ?_) | (refine wpList_store_blk rfl _ _ 110 rfl Tryz.sizeNodes rfl rfl (Blk.made _ _ _) rfl rfl ?_ ?_; (focus (intro u hu; simp [outA] at hu; rcases hu with rfl | rfl | rfl | rfl | rfl | rfl | rfl | rfl | rfl | rfl | rfl | rfl | rfl | rfl | rfl | rfl <;> rfl)); intro w9 hb9 hl9 ho9) | fail)
   have hx9:Ext w2 w9:=Below.trans (Ext.box w2 _) (hl9 _ (Nat.le_refl _))
   have HXX9:Hid (Ext w w9):=by exact (HXX.out.trans HX2.out).trans hx9
   have HN9:=Lib.hid (HN.out.ext hx9)
   replace hbr:=hbr.ext hx9
   clear hl9 ho9 hb9 hx9
   refine (probability_any _ _ _ t t.chances t.chances HV.out HN9.out HV.out.small (by unfold Tree.chances; simp)).mono ?_
   rintro e w3 ⟨rfl,hx3⟩
   replace hbr:=hbr.ext hx3
   go_wp2_with (refine wpList_store_blk rfl _ _ _ rfl Tryz.sizeRat rfl rfl hbr rfl rfl ?_ ?_; (focus (exact ratA_one _ _)); intro w8 hb8 hl8 ho8)
   refine bodyPost_ret (results_blk_tmp Tryz.results27 rfl hb8 Tryz.aggRat Tryz.sizeRat rfl) rfl ?_
   exact ⟨by rw [HR.out,HE0.out]; rfl,Below.trans (HXX9.out.trans hx3) (hl8 _ (by omega))⟩
 · have HR:Hid (chanceR t = ⟨0,0⟩):=by exact (by unfold chanceR; rw [if_neg he]:chanceR t = ⟨0,0⟩)
   have hne:(t.err != 0) = true:=by simp [he]
   clear he
   go_wp2_with (refine wpList_store_blk rfl _ _ _ rfl Tryz.sizeRat rfl rfl hbr rfl rfl ?_ ?_; (focus (exact encR_one ⟨0,0⟩)); intro w8 hb8 hl8 ho8)
   refine bodyPost_ret (results_blk_tmp Tryz.results27 rfl hb8 Tryz.aggRat Tryz.sizeRat rfl) rfl ?_
   exact ⟨by rw [HR.out]; rfl,Below.trans HXX.out (hl8 _ (by omega))⟩
end Go.Proofs
namespace Go.Flow
open Go.RowKit Go.Tw
def OwedB (P:Program) (ops:Array Oper) (pre:Nat → List Nat) (tail:List Nat) (w0:World) (D:Nat → (Nat → Value) → World → Prop):List ((Nat → Value) → World → World → Prop) → ((Nat → Value) → World → World → Prop) → List Oper → List Kind → List Nat → ((Nat → Value) → Act) → Prop
 | El,T,o :: l,k :: kl,j :: jl,b =>
   match k,El with
   | .last,E :: El=>(∀ v w1,Ext w0 w1 → Facts pre D v w1 ((pre j).filter fun i=>!tail.contains i) (∀ w,T v w1 w → ∀ bb,bb = b v → Guarded ops o bb (Due P pre D E .last o j bb v w1 w) (Pass pre D E .last j v w1 w))) ∧
      OwedB P ops pre tail w0 D El (fun v w1 w=>E (mask pre j v) w1 w) l kl jl (fun v=>(b v).put o.dst (v j))
   | .last,[]=>False
   | k,El=>(∀ v w1,Ext w0 w1 → Facts pre D v w1 (pre j) (∀ bb,bb = b v → Guarded ops o bb (Due P pre D (fun _ _ _=>False) k o j bb v w1 w1) (Pass pre D (fun _ _ _=>False) k j v w1 w1))) ∧ OwedB P ops pre tail w0 D El T l kl jl (fun v=>(b v).put o.dst (v j))
 | _,_,_,_,_,_=>True
theorem facts_mono {pre:Nat → List Nat} {D:Nat → (Nat → Value) → World → Prop} {v:Nat → Value} {w:World} {G G':Prop} (h:G → G'):∀ {l:List Nat},Facts pre D v w l G → Facts pre D v w l G'
 | [],hg=>h hg
 | _ :: _,hg=>fun hd=>facts_mono h (hg hd)
theorem owed_of {P:Program} {ops:Array Oper} {pre:Nat → List Nat} {tail:List Nat} {w0:World} {D:Nat → (Nat → Value) → World → Prop}:∀ (l:List Oper) (kl:List Kind) (jl:List Nat) (El:List ((Nat → Value) → World → World → Prop)) (T:(Nat → Value) → World → World → Prop) (b:(Nat → Value) → Act),
    OwedB P ops pre tail w0 D El T l kl jl b → Owed P ops pre tail w0 D El T l kl jl b
 | [],_,_,_,_,_,_=>by simp [Owed]
 | _ :: _,[],_,_,_,_,_=>by simp [Owed]
 | _ :: _,_ :: _,[],_,_,_,_=>by simp [Owed]
 | o :: l,.last :: kl,j :: jl,E :: El,T,b,h=>⟨h.1,owed_of l kl jl El _ _ h.2⟩
 | o :: l,.last :: kl,j :: jl,[],T,b,h=>h
 | o :: l,.plain :: kl,j :: jl,El,T,b,h=>⟨fun v w1 hx=>facts_mono (fun hg=>hg _ rfl) (h.1 v w1 hx),owed_of l kl jl El _ _ h.2⟩
 | o :: l,.world :: kl,j :: jl,El,T,b,h=>⟨fun v w1 hx=>facts_mono (fun hg=>hg _ rfl) (h.1 v w1 hx),owed_of l kl jl El _ _ h.2⟩
section
variable {P:Program} {ops:List Oper} {id:Nat} {Q:Exit → Act → World → Prop} {a0:Act} {w:World}
theorem regionB (kl:List Kind) (jl:List Nat) (pl:List (List Nat)) (tail:List Nat) (Dl:List Spec) (El:List ((Nat → Value) → World → World → Prop))
    (hm:P.follows .mixedOrders = true) (hjl:jl = List.range' 0 ops.length) (hok:okL ops pl kl tail El.length = true)
    (hvc:OwedB P ops.toArray (lookup pl []) tail w.drew (fun k=>(lookup Dl .none k).D) El (fun _ w1 w=>w = w1) ops kl jl (fun _=>a0))
    (hpost:∀ v w1,Ext w.drew w1 → All (lookup pl []) (fun k=>(lookup Dl .none k).D) v w1 tail jl (∀ w',endOf (lookup pl []) v w1 w' tail El → Q .normal (acts v ops jl a0) w')) :
    (Code.region id ops.toArray true).wp P Q a0 w:=region kl jl pl tail Dl El hm hjl hok (owed_of _ _ _ _ _ _ hvc) hpost
theorem regionB0 (kl:List Kind) (jl:List Nat) (pl:List (List Nat)) (Dl:List Spec)
    (hm:P.follows .mixedOrders = true) (hjl:jl = List.range' 0 ops.length) (hok:okL ops pl kl [] 0 = true)
    (hvc:OwedB P ops.toArray (lookup pl []) [] w.drew (fun k=>(lookup Dl .none k).D) [] (fun _ w1 w=>w = w1) ops kl jl (fun _=>a0))
    (hpost:∀ v w1,Ext w.drew w1 → All (lookup pl []) (fun k=>(lookup Dl .none k).D) v w1 [] jl (Q .normal (acts v ops jl a0) w1)) :
    (Code.region id ops.toArray true).wp P Q a0 w:=region0 kl jl pl Dl hm hjl hok (owed_of _ _ _ _ _ _ hvc) hpost
theorem regionIB0 {l n:Nat} (kl:List Kind) (jl:List Nat) (pl:List (List Nat)) (Dl:List Spec)
    (hm:P.follows .mixedOrders = true) (hnd:noDefer ops = true) (hjl:jl = List.range' 0 ops.length) (hok:okL ops pl kl [] 0 = true)
    (hvc:OwedB P ops.toArray (lookup pl []) [] w.drew (fun k=>(lookup Dl .none k).D) [] (fun _ w1 w=>w = w1) ops kl jl (fun _=>a0))
    (hpost:∀ v w1,Ext w.drew w1 → All (lookup pl []) (fun k=>(lookup Dl .none k).D) v w1 [] jl (Q .normal (acts v ops jl a0) w1)) :
    (Code.region id ops.toArray true).wpIn (rnd l) n P Q a0 w:=regionI0 kl jl pl Dl hm hnd hjl hok (owed_of _ _ _ _ _ _ hvc) hpost
end
end Go.Flow
