/- Contracts: all events, path sets, the whole. The region theorem in a round of a range over a function: the body of such a loop is walked in the fence of a round; all else as in Flow and FlowL. -/
import Derived.Test.YtmaejccjimkbiaaGreatDoorFx14
import Derived.Test.YtmaejccjimkbiaaGreatDoorFx09
import Derived.OrdersIn
import Derived.RangeFuncCalls
import Derived.TacticsIn
set_option linter.unusedVariables false
set_option linter.unusedSimpArgs false
set_option linter.constructorNameAsVariable false
namespace Go.Proofs
open Go.RowKit Go.Tw Go.Flow
theorem Q9v {a b:Nat} (ha:a < 2 ^ 62) (hb:b < 2 ^ 62):bits .andNot .i64 (a:Int) (b:Int) = ((Q2u a b:Nat):Int):=by
 have e1:(BitVec.ofInt 64 (a:Int)).toNat = a:=by rw [BitVec.ofInt_natCast,BitVec.toNat_ofNat]; exact Nat.mod_eq_of_lt (by omega)
 have e2:(BitVec.ofInt 64 (b:Int)).toNat = b:=by rw [BitVec.ofInt_natCast,BitVec.toNat_ofNat]; exact Nat.mod_eq_of_lt (by omega)
 have e3:(BitVec.ofInt 64 (a:Int) &&& ~~~ BitVec.ofInt 64 (b:Int)).toNat = Q2u a b:=by
  apply Nat.eq_of_testBit_eq
  intro i;rw [Q4g,BitVec.toNat_and,e1,BitVec.toNat_not,e2,Nat.testBit_and,Nat.sub_sub,Nat.add_comm 1 b,Nat.testBit_two_pow_sub_succ (by omega)]
  by_cases hi:i < 64
  · rw [decide_eq_true hi,Bool.true_and]
  · rw [Nat.testBit_lt_two_pow (Nat.lt_of_lt_of_le ha (Nat.pow_le_pow_right (by omega) (by omega)))]; rfl
 have h4:=Q6q b ha;show IntKind.i64.wrap ((BitVec.ofInt 64 (a:Int) &&& ~~~ BitVec.ofInt 64 (b:Int)).toNat:Int) = _;rw [e3];exact Q6d _ (by omega) (by omega)
theorem Z1o {n:Nat} (h:n ≤ 12):wrap64 (wrap64 (2 ^ n) - 1) = ((2 ^ n - 1:Nat):Int):=by
 have h1:(1:Nat) ≤ 2 ^ n:=Nat.one_le_two_pow;have h2:(2:Nat) ^ n ≤ 2 ^ 12:=Nat.pow_le_pow_right (by omega) h
 rw [Y2j (by omega)]
 unfold wrap64;omega
theorem Y5n {n:Nat} (h:n ≤ 12):wrap64 (2 ^ (4 * n)) = ((Q5n 16 n:Nat):Int):=by
 rw [Y2j (by omega)]
 unfold Q5n;rw [show (16:Nat) = 2 ^ 4 from rfl,← Nat.pow_mul]
theorem Y9c (w:World) (t:Tree) (c:List Int) (A:Option Addr) (n cap:Nat) (hs:t.size ≤ 12) :
    Calls Tryz.prog 83 #[evV t c (.slice A n cap)] w fun e w'=>e = .returned (.int .i64 (2 ^ t.size - 1:Nat)) ∧ Ext w w':=by
 unfold evV;have HA:=Lib.hid (Z1o hs);go_enter Tryz.func83,Tryz.ntmps83;go_wp2;go_ret;exact ⟨Q1f HA.out,Ext.box _ _⟩
theorem X0x (w:World) (t:Tree) (c:List Int) (A G:Option Addr) (n cap m capg:Nat) (hs:t.size ≤ 12) :
    Calls Tryz.prog 101 #[noV t c (.slice A n cap) (.slice G m capg)] w fun e w'=>e = .returned (.int .i64 (Q5n 16 t.size:Nat)) ∧ Ext w w':=by
 unfold noV;have HA:=Lib.hid (Y5n hs);go_enter Tryz.func101,Tryz.ntmps101;go_wp2;go_ret;exact ⟨Q1f HA.out,Ext.box _ _⟩
theorem X2j {w:World} {g:Nat} {t:Tree} {c:List Int} {fv gv:Value} (R:X3n w g t c fv gv):(Instr.loadAt 118 (.pointer (some ⟨g,0,none⟩))).run Tryz.prog w = .ok (evV t c fv) w:=by
 have h1:(isAgg 118).run Tryz.prog w = .ok true w:=by kernel_rfl
 have h2:(sizeOf 118).run Tryz.prog w = .ok 14 w:=by kernel_rfl
 have h3:(loadCells ⟨g,0,none⟩ 14).run Tryz.prog w = .ok (evV t c fv).cells w:=by
  obtain ⟨n0,n1,n2,n3,n4,n5,n6,n7,n8,n9,n10,n11,n12,n13,n14,n15⟩:=R;have:=Q9f (P:=Tryz.prog) (w:=w) (g:=g) (fun k=>((evV t c fv).cells[k]?).getD undef) 14 0 #[] (fun k hk=>by
   rw [Nat.zero_add];have:k = 0 ∨ k = 1 ∨ k = 2 ∨ k = 3 ∨ k = 4 ∨ k = 5 ∨ k = 6 ∨ k = 7 ∨ k = 8 ∨ k = 9 ∨ k = 10 ∨ k = 11 ∨ k = 12 ∨ k = 13:=by omega
   rcases this with rfl | rfl | rfl | rfl | rfl | rfl | rfl | rfl | rfl | rfl | rfl | rfl | rfl | rfl <;> assumption)
  exact this
 unfold Instr.loadAt;simp only [Sem.run_bind,Instr.sureAddr,Sem.run_pure,Result.andThen_ok,loadVar,h1,h2,h3,if_true];rfl
theorem X2n {K:Value → World → Prop} {o:Oper} {a:Act} {w:World} (p:Operand) (ho:o.op = .load 118 p) {g:Nat} (hp:a.eval p = .pointer (some ⟨g,0,none⟩)) {t:Tree} {c:List Int} {fv gv:Value} (R:X3n w g t c fv gv)
    (h:K (evV t c fv) w):gives Tryz.prog K ((execOp a.eval o).run Tryz.prog w):=by
 unfold execOp;simp only [ho,hp,Sem.run_bind,X2j R,Result.andThen_ok];exact h
def Q5r (t:Tree) (s:Nat):Nat:=Q2u (2 ^ t.size - 1) s
theorem X7c (t:Tree) (s:Nat):Q5r t s < 2 ^ t.size:=Q6q s (by have:=Nat.two_pow_pos t.size; omega)
set_option maxRecDepth 100000 in
set_option maxHeartbeats 1000000 in
theorem Y4a (w:World) (fv gv:Value) (t:Tree) (c:List Int) (s:Nat) (hv:Valid t) (hs:s < 2 ^ t.size) (hn:X8r w fv gv t) :
    Calls Tryz.prog 70 #[noV t c fv gv,.int .i64 s] w fun e w'=>e = .returned (.bool (!t.fails (evN (Q5r t s)))) ∧ Ext w w':=by
 obtain ⟨A1,cap1,hfv,_,_,_⟩:=hn.fails.opened;obtain ⟨A2,cap2,hgv,_,_,_⟩:=hn.gates.opened;rw [Q2o] at hfv;have hsz:=hv.size;have h12:(2:Nat) ^ t.size ≤ 2 ^ 12:=Nat.pow_le_pow_right (by omega) hsz
 have han:=Q9v (a:=2 ^ t.size - 1) (b:=s) (by omega) (by omega)
 have hol:=X7c t s;obtain ⟨Z,hZ⟩:∃ Z,Q5r t s = Z:=⟨_,rfl⟩;have hZ':Q2u (2 ^ t.size - 1) s = Z:=hZ;rw [hZ'] at han;rw [hZ] at hol ⊢;obtain ⟨Y,hY⟩:∃ Y,2 ^ t.size - 1 = Y:=⟨_,rfl⟩;rw [hY] at han;have HAL:Hid (∀ w',Calls Tryz.prog 83 #[evV t c fv] w' fun e w''=>e = .returned (.int .i64 (Y:Nat)) ∧ Ext w' w''):=by
  exact (by intro w'; rw [← hY,hfv]; exact Y9c w' t c A1 _ _ hsz:∀ w',Calls Tryz.prog 83 #[evV t c fv] w' fun e w''=>e = .returned (.int .i64 (Y:Nat)) ∧ Ext w' w'')
 have HN:=Lib.hid hn;have HV:=Lib.hid hv;have HOL:=Lib.hid hol;have HB:=X3n.new w 121 t c fv gv;subst hfv hgv;clear hn hv hs hZ hZ' hol hY h12;unfold noV;go_enter Tryz.func70,Tryz.ntmps70;go_wp2;have hxW:=Ext.box w (.cells #[.int .i64 t.size,.slice A1 t.size cap1,.int .i64 (ix c 0),.int .i64 (ix c 1),.int .i64 (ix c 2),.int .i64 (ix c 3),.int .i64 (ix c 4),.int .i64 (ix c 5),.int .i64 (ix c 6),.int .i64 (ix c 7),.int .i64 (ix c 8),.int .i64 (ix c 9),.int .i64 (ix c 10),.int .i64 (ix c 11),.int .i64 t.basics.length,.slice A2 t.gates.length cap2] 121);obtain ⟨W,hW⟩:∃ W,w.alloc (.cells #[.int .i64 t.size,.slice A1 t.size cap1,.int .i64 (ix c 0),.int .i64 (ix c 1),.int .i64 (ix c 2),.int .i64 (ix c 3),.int .i64 (ix c 4),.int .i64 (ix c 5),.int .i64 (ix c 6),.int .i64 (ix c 7),.int .i64 (ix c 8),.int .i64 (ix c 9),.int .i64 (ix c 10),.int .i64 (ix c 11),.int .i64 t.basics.length,.slice A2 t.gates.length cap2] 121) = W:=⟨_,rfl⟩;rw [hW] at HB hxW ⊢;clear hW;have hxd:=(Ext.refl W).drew;refine Flow.Q7w [.world,.plain,.world,.world,.plain,.plain,.world,.plain,.plain] [0,1,2,3,4,5,6,7,8] [[],[],[1],[2],[],[3,4],[0,3,5],[6],[0,1,2,3,4,5,6,7]]
  [.is 0 (fun v=>noV t c (.slice A1 t.size cap1) (.slice A2 t.gates.length cap2)),.is 1 (fun v=>.pointer (some ⟨w.heap.size,0,none⟩)),.is 2 (fun v=>evV t c (.slice A1 t.size cap1)),.is 3 (fun v=>.int .i64 (Y:Nat)),.is 4 (fun v=>.int .i64 s),.is 5 (fun v=>.int .i64 (Z:Nat)),.is 6 (fun v=>.bool (t.fails (evN Z))),.is 7 (fun v=>.bool (!t.fails (evN Z))),.is 8 (fun v=>.bool (!t.fails (evN Z)))]
  (by kernel_rfl) rfl (by kernel_rfl) ⟨?g0,?g1,?g2,?g3,?g4,?g5,?g6,?g7,?g8,trivial⟩ ?post
 case g0 =>
  intro v w1 hx;intro K hK;exact Q8y _ rfl (by go_simp) (HB.ext (hxd.trans hx)) (hK _ _ (Ext.refl _) rfl)
 case g1 =>
  intro v w1 hx;refine ⟨_,fun w=>?_,rfl⟩;go_simp
 case g2 =>
  intro v w1 hx (q1:v 1 = .pointer (some ⟨w.heap.size,0,none⟩));intro K hK;exact X2n _ rfl (by go_simp) (HB.ext (hxd.trans hx)) (hK _ _ (Ext.refl _) rfl)
 case g3 =>
  intro v w1 hx (q2:v 2 = evV t c (.slice A1 t.size cap1));intro K hK;go_simp;refine Q0e (HAL.out _) ?_;rintro e w2 ⟨rfl,hx2⟩;exact ⟨_,rfl,hK _ _ hx2 rfl⟩
 case g4 =>
  intro v w1 hx;refine ⟨_,fun w=>?_,rfl⟩;go_simp
 case g5 =>
  intro v w1 hx (q3:v 3 = .int .i64 (Y:Nat)) (q4:v 4 = .int .i64 s);refine ⟨_,fun w=>?_,rfl⟩;go_simp
 case g6 =>
  intro v w1 hx (q0:v 0 = noV t c (.slice A1 t.size cap1) (.slice A2 t.gates.length cap2)) (q3:v 3 = .int .i64 (Y:Nat)) (q5:v 5 = .int .i64 (Z:Nat));intro K hK;go_simp;refine Q0e (Q7x _ _ _ t c Z HV.out HOL.out (HN.out.ext (hxW.trans (hxd.trans hx)))) ?_;rintro e w2 ⟨rfl,hx2⟩;exact ⟨_,rfl,hK _ _ hx2 rfl⟩
 case g7 =>
  intro v w1 hx (q6:v 6 = .bool (t.fails (evN Z)));refine ⟨_,fun w=>?_,rfl⟩;go_simp
 case g8 =>
  intro v w1 hx (q0:v 0 = noV t c (.slice A1 t.size cap1) (.slice A2 t.gates.length cap2)) (q1:v 1 = .pointer (some ⟨w.heap.size,0,none⟩)) (q2:v 2 = evV t c (.slice A1 t.size cap1)) (q3:v 3 = .int .i64 (Y:Nat)) (q4:v 4 = .int .i64 s) (q5:v 5 = .int .i64 (Z:Nat)) (q6:v 6 = .bool (t.fails (evN Z))) (q7:v 7 = .bool (!t.fails (evN Z)));refine ⟨_,fun w=>?_,rfl⟩;go_simp
 case post =>
  intro v w1 hx (q0:v 0 = noV t c (.slice A1 t.size cap1) (.slice A2 t.gates.length cap2)) (q1:v 1 = .pointer (some ⟨w.heap.size,0,none⟩)) (q2:v 2 = evV t c (.slice A1 t.size cap1)) (q3:v 3 = .int .i64 (Y:Nat)) (q4:v 4 = .int .i64 s) (q5:v 5 = .int .i64 (Z:Nat)) (q6:v 6 = .bool (t.fails (evN Z))) (q7:v 7 = .bool (!t.fails (evN Z))) (q8:v 8 = .bool (!t.fails (evN Z)));simp only [Flow.All,Flow.acts,Act.put];go_simp;go_wp2;go_ret;exact ⟨rfl,hxW.trans (hxd.trans hx)⟩
end Go.Proofs
namespace Go.Flow
open Go.RowKit Go.Tw
abbrev rnd (l:Nat):Fence:=Fence.wide.inRound l
section
variable {P:Program} {ops:Array Oper} {pre:Nat → List Nat}
theorem Q9r {l n:Nat} {o:Oper} {a:Act} {K:Act → World → Prop} {Q:Exit → Act → World → Prop} {r:Result Next} (h:gives P (fun v w=>K (a.put o.dst v) w) r):o.uponIn (rnd l) n P a K Q r:=by
 cases r with
 | ok n' w =>
   cases n' <;> simp only [gives,Oper.uponIn] at h ⊢
   case value=>exact h
   case skip=>exact h
   case enter =>
    refine ⟨fun hd=>by simp [rnd,Fence.inRound,Fence.wide] at hd,CallsIn.inRound l (callsIn_wide.2 (h.mono fun e w ⟨u,he,hu⟩=>?_))⟩
    subst he; exact hu
   case row =>
    exact ⟨fun hd=>by simp [rnd,Fence.inRound,Fence.wide] at hd,fun c cs _=>let ⟨v,w',hr,hs⟩:=h c cs; ⟨v,w',hr,stepsIn_wide.2 hs⟩⟩
 | halt x w=>exact h.elim
theorem X3q (tail:List Nat) (kind:Nat → Kind) {Rel:World → World → Prop} {D:Nat → (Nat → Value) → World → Prop} {E:Nat → (Nat → Value) → World → World → Prop}
    {id:Nat} {Q:Exit → Act → World → Prop} {a0:Act} {w:World} {l n:Nat} (hm:P.follows .mixedOrders = true) (hnd:∀ (j:Nat) (o:Oper),ops[j]? = some o → ∀ c,o.op ≠ .defer c) (hok:Ok ops pre)
    (htail:∀ i (h:i < tail.length),tail[i] < ops.size) (hchain:∀ i k (hi:i < tail.length) (hk:k < tail.length),i < k → tail[i] ∈ pre tail[k])
    (hlate:∀ j,j < ops.size → j ∉ tail → ∀ k ∈ pre j,k ∉ tail) (hkind:∀ j,j < ops.size → (kind j = .last ↔ j ∈ tail)) (hearly:∀ j,j < ops.size → kind j = .world → ∀ s ∈ tail,j ∈ pre s)
    (hrefl:∀ w,Rel w w) (htrans:∀ a b c,Rel a b → Rel b c → Rel a c) (hmono:∀ k,k < ops.size → ∀ v w w',Rel w w' → D k v w → D k v w')
    (hvc:∀ j o,ops[j]? = some o → j ∉ tail → ∀ v w1,Rel w.drew w1 → (∀ k ∈ pre j,D k (mask pre k v) w1) → vc P ops pre Rel D (fun _ _ _=>False) (fun _ _ _=>False) (kind j) o j (act (fun k=>decide (k < j)) v ops.toList 0 a0) v w1)
    (hvl:∀ c (hc:c < tail.length) o,ops[tail[c]]? = some o → ∀ v w1,Rel w.drew w1 → (∀ k ∈ pre tail[c],k ∉ tail → D k (mask pre k v) w1) → vc P ops pre Rel D (Tail pre tail E c) (E c) .last o tail[c] (act (fun k=>decide (k < tail[c])) v ops.toList 0 a0) v w1)
    (hpost:∀ v w1 w',Rel w.drew w1 → (∀ k,k < ops.size → k ∉ tail → D k (mask pre k v) w1) → Tail pre tail E tail.length v w1 w' → Q .normal (act (fun _=>true) v ops.toList 0 a0) w') :
    (Code.region id ops true).wpIn (rnd l) n P Q a0 w:=by
 refine wpIn_region_any hm ?_;have hclosed:∀ (X:Nat → Bool),(∀ j o,ops[j]? = some o → X j = true → ∀ e ∈ o.after,Region.binds .any e = true → X e.on = true) →
     ∀ j o,ops[j]? = some o → (∀ e ∈ o.after,Region.binds .any e = true → X e.on = true) → ∀ i ∈ pre j,X i = true:=by
  intro X hX j
  induction j using Nat.strongRecOn with
  | _ j ih =>
    intro o ho hall i hi;obtain ⟨e,he,hb,hc⟩:=hok.pre j o ho i hi
    rcases hc with rfl | hc
    · exact hall e he hb
    · have hlt:=hok.edge j o ho e he hb
      have hj:j < ops.size:=(Array.getElem?_eq_some_iff.1 ho).1;have ho':ops[e.on]? = some ops[e.on]:=Array.getElem?_eq_getElem (by omega)
      exact ih e.on hlt _ ho' (hX e.on _ ho' (hall e he hb)) i hc
 have main:∀ (fuel:Nat) (listed:Array Bool) (a:Act) (wc:World),listed.size = ops.size → left ops.size listed ≤ fuel →
     (∀ j o,ops[j]? = some o → listed.getD j false = true → ∀ e ∈ o.after,Region.binds .any e = true → listed.getD e.on false = true) →
     (∃ v w1 c,Inv ops pre Rel D E tail a0 w.drew (fun k=>listed.getD k false) v w1 c a wc) → wpAnyIn (rnd l) n P .any ops Q fuel listed a wc:=by
  intro fuel;have hdone:∀ (listed:Array Bool) (a:Act) (wc:World),listed.size = ops.size →
      (∃ v w1 c,Inv ops pre Rel D E tail a0 w.drew (fun k=>listed.getD k false) v w1 c a wc) → Region.ready .any ops listed = [] → Q .normal a wc:=by
   rintro listed a wc hsz ⟨v,w1,c,hI⟩ hr;have hall:∀ j,j < ops.size → listed.getD j false = true:=by
    intro j
    induction j using Nat.strongRecOn with
    | _ j ih =>
      intro hj;cases hx:listed.getD j false with
      | true=>rfl
      | false =>
        have hmem:j ∈ Region.ready .any ops listed:=mem_ready.2 ⟨by rw [Q5l (by omega)]; exact hx,ops[j],Array.getElem?_eq_getElem hj,fun e he hb =>
         have hlt:=hok.edge j _ (Array.getElem?_eq_getElem hj) e he hb
         ih e.on hlt (by omega)⟩
        rw [hr] at hmem;cases hmem
   have hact:a = act (fun _=>true) v ops.toList 0 a0:=by
    rw [hI.act];refine X5s (by rw [Q4i,Q4i]) fun t=>Q8j _ _ _ _ t _ 0 _ _ rfl rfl fun k o ho _=>⟨?_,fun _=>rfl⟩
    rw [Nat.zero_add];exact hall k (by simpa using (List.getElem?_eq_some_iff.1 ho).1)
   rw [hact];refine hpost v w1 wc hI.rel (fun k hk hks=>hI.facts k (hall k hk) hks) ?_;have hl:=hI.last;have hc:c = tail.length:=by
    rcases Nat.lt_or_ge c tail.length with h | h
    · have h1:listed.getD tail[c] false = false:=hI.after c h (Nat.le_refl _)
      have h2:=hall _ (htail c h);rw [h2] at h1; cases h1
    · have:=hI.count; omega
   rw [hc] at hl;exact hl
  induction fuel with
  | zero =>
    intro listed a wc hsz hleft _ hI;have hr:Region.ready .any ops listed = []:=by
     refine List.eq_nil_iff_forall_not_mem.2 fun j hj=>?_;obtain ⟨hun,o,ho,_⟩:=mem_ready.1 hj;have hlt:j < ops.size:=(Array.getElem?_eq_some_iff.1 ho).1;have:=X4f hsz hlt hun;omega
    exact ⟨hr,hdone listed a wc hsz hI hr⟩
  | succ fuel ih =>
    intro listed a wc hsz hleft hcl hI;refine ⟨hdone listed a wc hsz hI,fun j hj=>?_⟩;obtain ⟨v,w1,c,hI⟩:=hI;obtain ⟨hun,o,ho,hall⟩:=mem_ready.1 hj;have hlt:j < ops.size:=(Array.getElem?_eq_some_iff.1 ho).1;have hunf:listed.getD j false = false:=by rw [← Q5l (by omega)]; exact hun
    have hpre:=hclosed (fun k=>listed.getD k false) hcl j o ho hall;have hol:ops.toList[j]? = some o:=by simpa using ho
    have hfree:∀ k,k < ops.size → listed.getD k false = true → j ∉ pre k:=by
     intro k hk hx hmem;have ho':ops[k]? = some ops[k]:=Array.getElem?_eq_getElem hk;have h2:listed.getD j false = true:=hclosed (fun k=>listed.getD k false) hcl k _ ho' (hcl k _ ho' hx) j hmem;rw [hunf] at h2; cases h2
    have hlater:∀ k o',j < k → ops[k]? = some o' → listed.getD k false = true → o.apart ops o' = true:=by
     intro k o' hk ho' hx
     rcases hok.apart j k o o' hk ho ho' with h | h
     · exact h
     · exact absurd h (hfree k (Array.getElem?_eq_some_iff.1 ho').1 hx)
    have hlooks:∀ t ∈ o.looksAt ops,a.tmps[t]? = (act (fun k=>decide (k < j)) v ops.toList 0 a0).tmps[t]?:=by
     intro t ht;rw [hI.act];refine Q8j _ _ _ _ t _ 0 _ _ rfl rfl fun k o' ho' hd=>?_;rw [Nat.zero_add];refine ⟨?_,fun _=>rfl⟩;have ho'':ops[k]? = some o':=by simpa using ho'
     rcases Nat.lt_trichotomy k j with hk | hk | hk
     · simp only [hk,decide_true]
       rcases hok.apart k j o' o hk ho'' ho with h | h
       · exact absurd ht ((Oper.apart_spec h).1 t hd)
       · exact hpre k h
     · subst hk
       simp [hunf]
     · have hnlt:¬ k < j:=by omega
       simp only [hnlt,decide_false];cases hx:listed.getD k false with
       | false=>rfl
       | true=>exact absurd ht ((Oper.apart_spec (hlater k o' hk ho'' hx)).2.2 t hd)
    have hexec:execOp a.eval o = execOp (act (fun k=>decide (k < j)) v ops.toList 0 a0).eval o:=execOp_congr o (fun cs b=>hok.sel j o cs b ho) (eval_congr o hlooks);have hwant:Region.wanted o (yielded ops a.tmps) = Region.wanted o (yielded ops (act (fun k=>decide (k < j)) v ops.toList 0 a0).tmps):=X2u o hlooks;have hput:∀ u,a.put o.dst u = act (fun k=>if k = j then true else listed.getD k false) (upd v j u) ops.toList 0 a0:=by
     intro u;rw [hI.act];refine Y4t hol hunf fun k o' hk ho' hx=>?_;cases hd:o.dst with
     | none=>exact .inr rfl
     | some d=>exact .inl ((Oper.apart_spec (hlater k o' hk (by simpa using ho') hx)).2.1 d hd)
    have hX:(fun k=>(listed.setIfInBounds j true).getD k false) = fun k=>if k = j then true else listed.getD k false:=by
     funext k
     split
     · rename_i hk; subst hk; simp [hsz,hlt]
     · rename_i hk; exact getD_set_ne false (Ne.symm hk)
    have hwhich:j ∈ tail → ∃ h:c < tail.length,tail[c] = j:=by
     intro hmem;obtain ⟨i,hi,he⟩:=List.getElem_of_mem hmem;have hci:c ≤ i:=by
      rcases Nat.lt_or_ge i c with h | h
      · have:=hI.before i hi h
        simp only [he] at this;rw [hunf] at this; cases this
      · exact h
     have:c = i:=by
      rcases Nat.lt_or_ge c i with h | h
      · have hx:=hpre tail[c] (by rw [← he]; exact hchain c i (by omega) hi h)
        have h1:=hI.after c (by omega) (Nat.le_refl _)
        rw [hx] at h1; cases h1
      · omega
     subst this;exact ⟨hi,he⟩
    have hnext:∀ (u:Value) (w1' wc':World) (c':Nat),Rel w1 w1' → (j ∉ tail → D j (mask pre j (upd v j u)) w1') → (j ∉ tail → c' = c) → (j ∈ tail → c' = c + 1) →
        Tail pre tail E c' (upd v j u) w1' wc' → wpAnyIn (rnd l) n P .any ops Q fuel (listed.setIfInBounds j true) (a.put o.dst u) wc':=by
     intro u w1' wc' c' hrel hD hc1 hc2 hE;refine ih _ _ _ (by simpa using hsz) (by have:=X4f hsz hlt hun; omega) (fun k ok hok' hx e he hb=>?_) ⟨upd v j u,w1',c',⟨by rw [hX]; exact hput u,htrans _ _ _ hI.rel hrel,fun k hx hks=>?_,?_,fun i hi hic=>?_,fun i hi hic=>?_,hE⟩⟩
     · by_cases hkj:k = j
       · subst hkj
         rw [ho] at hok';cases hok';exact getD_set_true (hall e he hb)
       · rw [getD_set_ne false (Ne.symm hkj)] at hx
         exact getD_set_true (hcl k ok hok' hx e he hb)
     · rw [congrFun hX k] at hx
       by_cases hkj:k = j
       · subst hkj; exact hD hks
       · rw [if_neg hkj] at hx
         have hksz:k < ops.size:=by
          rcases Nat.lt_or_ge k ops.size with h | h
          · exact h
          · rw [← hsz] at h; simp [Array.getElem?_eq_none h] at hx
         rw [X4e (Ne.symm hkj) (hfree k hksz hx)];exact hmono k hksz _ _ _ hrel (hI.facts k hx hks)
     · by_cases hjt:j ∈ tail
       · obtain ⟨h,_⟩:=hwhich hjt
         rw [hc2 hjt]; omega
       · rw [hc1 hjt]; exact hI.count
     · rw [congrFun hX]
       by_cases hij:tail[i] = j
       · rw [if_pos hij]
       · rw [if_neg hij]
         by_cases hjt:j ∈ tail
         · obtain ⟨h,he⟩:=hwhich hjt
           rw [hc2 hjt] at hic;have:i ≠ c:=fun e=>hij (by subst e; exact he)
           exact hI.before i hi (by omega)
         · rw [hc1 hjt] at hic; exact hI.before i hi hic
     · rw [congrFun hX]
       by_cases hjt:j ∈ tail
       · obtain ⟨h,he⟩:=hwhich hjt
         rw [hc2 hjt] at hic;rw [if_neg (fun e=>by
          have h1:=hchain c i h hi (by omega)
          rw [e,he] at h1;obtain ⟨e',he',hb',hcc⟩:=hok.pre j o ho j h1;have hl:=hok.edge j o ho e' he' hb';have h2:listed.getD j false = true:=hpre j h1;rw [hunf] at h2; cases h2)]
         exact hI.after i hi (by omega)
       · rw [hc1 hjt] at hic
         rw [if_neg (fun e=>hjt (by rw [← e]; exact List.getElem_mem hi))]
         exact hI.after i hi hic
    have htailkeep:j ∉ tail → ∀ u,Tail pre tail E c (upd v j u) w1 wc:=by
     intro hjt u;have hl:=hI.last;cases c with
     | zero=>exact hl
     | succ c =>
       have hct:c < tail.length:=by have:=hI.count; omega
       change E c (mask pre (tail.getD c 0) v) w1 wc at hl;show E c (mask pre (tail.getD c 0) (upd v j u)) w1 wc;have e:tail.getD c 0 = tail[c]:=by simp [hct]
       rw [e] at hl ⊢;rw [X4e (fun h=>hjt (by rw [h]; exact List.getElem_mem hct)) (hfree _ (htail c hct) (hI.before c hct (by omega)))]
       exact hl
    unfold wpOpIn;simp only [ho];rw [hwant]
    by_cases hjt:j ∈ tail
    · obtain ⟨hc,he⟩:=hwhich hjt
      have hv:=hvl c hc o (by rw [he]; exact ho) v w1 hI.rel (fun k hk hkt=>hI.facts k (hpre k (by rw [← he]; exact hk)) hkt) wc hI.last
      rw [he] at hv;have hT:∀ u w',E c (mask pre j (upd v j u)) w1 w' → Tail pre tail E (c + 1) (upd v j u) w1 w':=by
       intro u w' h;show E c (mask pre (tail.getD c 0) (upd v j u)) w1 w';have e:tail.getD c 0 = j:=by simp [hc,he]
       rw [e]; exact h
      rcases hv with ⟨hwt,hg⟩ | ⟨hwf,hD⟩
      · rw [if_pos hwt]
        refine ⟨fun _ _=>trivial,?_⟩;rw [show (rnd l).round = some l from rfl,Oper.semAt_some l _ _ (hnd j o ho)]
        rw [hexec];exact Q9r (Q9t (fun u w' h=>hnext u w1 w' (c + 1) (hrefl _) (fun h=>absurd hjt h) (fun h=>absurd hjt h) (fun _=>rfl) (hT u w' h)) hg)
      · rw [if_neg (by rw [hwf]; simp)]
        refine ⟨fun _ _=>trivial,?_⟩;exact hnext undef w1 wc (c + 1) (hrefl _) (fun h=>absurd hjt h) (fun h=>absurd hjt h) (fun _=>rfl) (hT _ _ hD)
    · have hfacts:∀ k ∈ pre j,D k (mask pre k v) w1:=fun k hk=>hI.facts k (hpre k hk) (hlate j hlt hjt k hk)
      have hv:=hvc j o ho hjt v w1 hI.rel hfacts;cases hk:kind j with
      | plain =>
        rw [hk] at hv
        rcases hv with ⟨hwt,u,hrun,hD⟩ | ⟨hwf,hD⟩
        · rw [if_pos hwt]
          refine ⟨fun _ _=>trivial,?_⟩;rw [show (rnd l).round = some l from rfl,Oper.semAt_some l _ _ (hnd j o ho)]
          rw [hexec,hrun wc];exact hnext u w1 wc c (hrefl _) (fun _=>hD) (fun _=>rfl) (fun h=>absurd h hjt) (htailkeep hjt u)
        · rw [if_neg (by rw [hwf]; simp)]
          refine ⟨fun _ _=>trivial,?_⟩;exact hnext undef w1 wc c (hrefl _) (fun _=>hD) (fun _=>rfl) (fun h=>absurd h hjt) (htailkeep hjt undef)
      | world =>
        have hc0:c = 0:=by
         rcases Nat.eq_zero_or_pos c with h | h
         · exact h
         · have h0:0 < tail.length:=by have:=hI.count; omega
           have hx:=hI.before 0 h0 h;exact absurd (hearly j hlt hk tail[0] (List.getElem_mem h0)) (hfree _ (htail 0 h0) hx)
        subst hc0;have hwc:wc = w1:=hI.last;subst hwc;rw [hk] at hv
        rcases hv with ⟨hwt,hg⟩ | ⟨hwf,hD⟩
        · rw [if_pos hwt]
          refine ⟨fun _ _=>trivial,?_⟩;rw [show (rnd l).round = some l from rfl,Oper.semAt_some l _ _ (hnd j o ho)]
          rw [hexec];exact Q9r (Q9t (fun u w' h=>hnext u w' w' 0 h.1 (fun _=>h.2) (fun _=>rfl) (fun h=>absurd h hjt) rfl) hg)
        · rw [if_neg (by rw [hwf]; simp)]
          refine ⟨fun _ _=>trivial,?_⟩;exact hnext undef wc wc 0 (hrefl _) (fun _=>hD) (fun _=>rfl) (fun h=>absurd h hjt) rfl
      | last=>exact absurd ((hkind j hlt).1 hk) hjt
 refine main ops.size _ a0 _ (by simp) ?_ (fun j o _ hx=>?_) ⟨fun _=>undef,w.drew,0,?_,hrefl _,fun k hx=>?_,Nat.zero_le _,fun i _ h=>absurd h (Nat.not_lt_zero _),fun i _ _=>?_,rfl⟩
 · exact Nat.le_trans (List.countP_le_length) (by simp)
 · have:=Q7o ops.size j
   rw [this] at hx; cases hx
 · refine (X5s (by rw [Q4i]) fun t=>?_)
   have:∀ (l:List Oper) (i:Nat) (a:Act),act (fun k=>(Array.replicate ops.size false).getD k false) (fun _=>undef) l i a = a:=by
    intro l; induction l with
    | nil=>intro i a; rfl
    | cons o l ih=>intro i a; rw [act,ih,Q7o]; rfl
   rw [this]
 · have:=Q7o ops.size k
   rw [this] at hx; cases hx
 · exact Q7o ops.size _
end
def X8e (l:List Oper):Bool:=l.all fun o=>match o.op with | .defer _=>false | _=>true
theorem X9u {l:List Oper} (h:X8e l = true):∀ (j:Nat) (o:Oper),l.toArray[j]? = some o → ∀ c,o.op ≠ .defer c:=by
 intro j o ho c hc;have hm:o ∈ l:=List.mem_of_getElem? (by simpa using ho)
 have:=List.all_eq_true.1 h o hm;simp [hc] at this
section
variable {P:Program} {id:Nat} {Q:Exit → Act → World → Prop} {a0:Act} {w:World} {ops:List Oper}
theorem Y1i {l n:Nat} (kl:List Kind) (jl:List Nat) (pl:List (List Nat)) (tail:List Nat) (Dl:List Spec) (El:List ((Nat → Value) → World → World → Prop))
    (hm:P.follows .mixedOrders = true) (hnd:X8e ops = true) (hjl:jl = List.range' 0 ops.length) (hok:okL ops pl kl tail El.length = true)
    (hvc:X4z P ops.toArray (lookup pl []) tail w.drew (fun k=>(lookup Dl .none k).D) El (fun _ w1 w=>w = w1) ops kl jl (fun _=>a0))
    (hpost:∀ v w1,Ext w.drew w1 → All (lookup pl []) (fun k=>(lookup Dl .none k).D) v w1 tail jl (∀ w',endOf (lookup pl []) v w1 w' tail El → Q .normal (acts v ops jl a0) w')) :
    (Code.region id ops.toArray true).wpIn (rnd l) n P Q a0 w:=by
 subst hjl;simp only [Y1n] at hpost;simp only [okL,Bool.and_eq_true,List.all_eq_true,List.mem_range,beq_iff_eq,Bool.or_eq_true,Bool.not_eq_true',List.contains_eq_mem,decide_eq_true_eq,decide_eq_false_iff_not] at hok;obtain ⟨⟨⟨⟨⟨⟨hok,hlen⟩,htail⟩,hn⟩,hchain⟩,hlate⟩,hearly⟩:=hok;have hmem:∀ j,j ∈ tail ↔ j < ops.length ∧ isLast (lookup kl .plain j) = true:=by intro j; rw [htail,List.mem_filter,List.mem_range]
 have hk:∀ j,isLast (lookup kl .plain j) = true ↔ lookup kl .plain j = .last:=by intro j; cases lookup kl .plain j <;> simp [isLast]
 have hlk:lasts kl 0 = tail:=by
  rw [X7v,htail,hlen,List.range_eq_range'];rfl
 have hEl:∀ n,n < (lasts kl 0).length → El[n]? = some ((fun c=>(El[c]?).getD fun _ _ _=>True) (0 + n)):=by
  intro n hn';rw [hlk,← hn] at hn';simp [hn']
 have hend:∀ v w1 w',Tail (lookup pl []) tail (fun c=>(El[c]?).getD fun _ _ _=>True) tail.length v w1 w' → endOf (lookup pl []) v w1 w' tail El:=by
  intro v w1 w' h;have gen:∀ (tl:List Nat) (el:List ((Nat → Value) → World → World → Prop)),el.length = tl.length → (tl = [] → w' = w1) → (∀ (hne:tl ≠ []),((el[tl.length - 1]?).getD fun _ _ _=>True) (mask (lookup pl []) (tl.getD (tl.length - 1) 0) v) w1 w') → endOf (lookup pl []) v w1 w' tl el:=by
   intro tl
   induction tl with
   | nil=>intro el _ h0 _; cases el <;> exact h0 rfl
   | cons j tl ih =>
     intro el hl _ h1;cases el with
     | nil=>simp at hl
     | cons E el =>
       cases tl with
       | nil=>cases el with
         | nil=>simpa [endOf] using h1 (by simp)
         | cons _ _=>simp at hl
       | cons j' tl=>cases el with
         | nil=>simp at hl
         | cons E' el =>
           show endOf _ v w1 w' (j' :: tl) (E' :: el);exact ih _ (by simpa using hl) (fun h=>by simp at h) (fun _=>by simpa using h1 (by simp))
  refine gen tail El hn.symm.symm (fun h0=>?_) (fun hne=>?_)
  · rw [h0] at h; exact h
  · obtain ⟨m,hm⟩:∃ m,tail.length = m + 1:=⟨tail.length - 1,by have:=List.length_pos_iff.2 hne; omega⟩
    rw [hm] at h;rw [hm,Nat.add_sub_cancel];exact h
 refine X3q tail (lookup kl .plain) (Rel:=Ext) (D:=fun k=>(lookup Dl .none k).D) (E:=fun c=>(El[c]?).getD fun _ _ _=>True) hm (X9u hnd) (Z4i hok)
  (fun i hi=>by simpa using ((hmem _).1 (List.getElem_mem hi)).1) (fun i k hi hk hik=>by have:=hchain k hk i hik; simpa [hi,hk] using this)
  (fun j hjl hjs k hk'=>?_) (fun j hjl=>?_) (fun j hjl hjw s hs=>?_)
  Ext.refl (fun _ _ _=>Ext.trans) (fun k _ v w w' hx hd=>(lookup Dl .none k).mono v w w' hx hd) (fun j o ho hjs v w1 hx hf=>?_) (fun c hc o ho v w1 hx hf=>?_) (fun v w1 w' hx hf hE=>?_)
 · rcases hlate j (by simpa using hjl) with h | h
   · exact absurd ((hmem j).2 ⟨by simpa using hjl,h⟩) hjs
   · exact h k hk'
 · rw [hmem,hk]; simp at hjl; simp [hjl]
 · rcases hearly j (by simpa using hjl) with h | h
   · rw [hjw] at h; simp [Y1t] at h
   · exact h s hs
 · have hjl:j < ops.length:=by simpa using (Array.getElem?_eq_some_iff.1 ho).1
   have:=Y2b ops kl El _ 0 _ hlen hvc j o (by simpa using ho) (fun h=>hjs ((hmem j).2 ⟨hjl,(hk j).2 h⟩)) v w1 hx (by simpa using hf)
   rw [Nat.zero_add] at this;have e:=Q8g v ops 0 j a0;rw [Nat.zero_add] at e
   simpa [e] using this
 · have:=Q9i (fun c=>(El[c]?).getD fun _ _ _=>True) ops kl El 0 _ 0 hlen (by rw [hlk]; rfl) hEl hvc c (by rw [hlk]; exact hc) tail[c] o (by simp [hc]) (by simpa using ho) v w1 hx (by simpa using hf)
   rw [Nat.zero_add,Nat.zero_add] at this;have e:=Q8g v ops 0 tail[c] a0;rw [Nat.zero_add] at e
   simpa [e] using this
 · exact (hpost v w1 hx).out (fun k hk hks=>hf k (by simpa using hk) hks) w' (hend v w1 w' hE)
theorem Y4c {l n:Nat} (kl:List Kind) (jl:List Nat) (pl:List (List Nat)) (Dl:List Spec)
    (hm:P.follows .mixedOrders = true) (hnd:X8e ops = true) (hjl:jl = List.range' 0 ops.length) (hok:okL ops pl kl [] 0 = true)
    (hvc:X4z P ops.toArray (lookup pl []) [] w.drew (fun k=>(lookup Dl .none k).D) [] (fun _ w1 w=>w = w1) ops kl jl (fun _=>a0))
    (hpost:∀ v w1,Ext w.drew w1 → All (lookup pl []) (fun k=>(lookup Dl .none k).D) v w1 [] jl (Q .normal (acts v ops jl a0) w1)) :
    (Code.region id ops.toArray true).wpIn (rnd l) n P Q a0 w :=
 Y1i kl jl pl [] Dl [] hm hnd hjl hok hvc (fun v w1 hx=>by
  have:=hpost v w1 hx;have gen:∀ (jl:List Nat) (G G':Prop),(G → G') → All (lookup pl []) (fun k=>(lookup Dl .none k).D) v w1 [] jl G → All (lookup pl []) (fun k=>(lookup Dl .none k).D) v w1 [] jl G':=by
   intro jl
   induction jl with
   | nil=>intro G G' h hG; exact h hG
   | cons j jl ih =>
     intro G G' h hG;simp only [All,List.contains_nil,Bool.false_eq_true,if_false] at hG ⊢;exact fun hd=>ih G G' h (hG hd)
  exact gen _ _ _ (fun h w' (hE:w' = w1)=>hE ▸ h) this)
end
end Go.Flow
