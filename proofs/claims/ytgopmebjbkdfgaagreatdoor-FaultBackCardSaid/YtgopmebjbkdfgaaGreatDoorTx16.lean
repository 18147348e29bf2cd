/- Contract: Critical. Contracts: slices.Index, Contains, IndexFunc, ContainsFunc over ints. Contracts: Bound. -/
import Derived.Test.YtgopmebjbkdfgaaGreatDoorTx15
import Derived.Test.YtgopmebjbkdfgaaGreatDoorTx03
set_option maxRecDepth 1000000
set_option maxHeartbeats 64000000
set_option linter.unusedVariables false
set_option linter.unusedSimpArgs false
set_option linter.constructorNameAsVariable false
namespace Go.Proofs
open Go.RowKit Go.Tw Go.Flow
attribute [local go_sem] Oper.semAt_some
theorem Q6x {F:Fence} {n0:Nat} {P:Program} {w:World} {ops:Array Oper} {rest:List Oper} {o:Oper} {a:Act} {Q:Exit -> Act -> World -> Prop} (hw:Region.wanted o (yielded ops a.tmps) = true) (p x:Operand) (T:TypeId) (hop:o.op = .store T p x)
    {n:Nat} (hS:∀ w,(sizeOf T).run P w = .ok n w) {g:Nat} (hp:a.eval p = .pointer (some ⟨g,0,none⟩)) {BT:TypeId} {cs vs:Array Value} (hx:a.eval x = .agg vs) (hb:Blk w g BT cs) (hn:cs.size = n) (hv:vs.size = n) (h1:∀ u ∈ vs.toList,u.oneCell' = true)
    (hK:∀ w',Blk w' g BT vs -> (∀ n,n <= g -> Below n w w') -> (∀ k,k ≠ g -> w'.heap[k]? = w.heap[k]?) -> wpListIn F n0 P ops Q rest (a.put o.dst undef) w'):wpListIn F n0 P ops Q (o :: rest) a w:=by
 refine BigFrame.wpListIn_want hw fun K' hK'=>?_;unfold Oper.wpIn;refine ⟨?_,?_⟩
 . simp [Oper.about,hop]
 . rw [Oper.semAt_plain F _ _ (by rw [hop]; intro c hc'; cases hc')]
   obtain ⟨w',hr,hb',hl,hoo⟩:=Q7c (P:=P) vs.toList 0 w cs hb h1 (by simp [hn,hv])
   have hs:(storeVar T ⟨g,0,none⟩ (.agg vs)).run P w = .ok () w':=by
    have hc:(Value.agg vs).cells = vs:=rfl;unfold storeVar;simp only [Sem.run_bind,hS,Result.andThen_ok];rw [if_neg (by rw [hc]; simp [hv])]
    exact hr
   have hr2:(execOp a.eval o).run P w = .ok .skip w':=by
    unfold execOp;simp only [hop,hp,hx,Instr.storeAt,Instr.sureAddr,Sem.run_bind,Sem.run_pure,Result.andThen_ok,hs]
   rw [hr2];exact hK' _ _ (hK w' (by simpa using hb') hl hoo)
def evA (t:Tree) (c:List Int) (fv:Value):Array Value:=#[.int .i64 t.size,fv,.int .i64 (ix c 0),.int .i64 (ix c 1),.int .i64 (ix c 2),.int .i64 (ix c 3),.int .i64 (ix c 4),.int .i64 (ix c 5),.int .i64 (ix c 6),.int .i64 (ix c 7),.int .i64 (ix c 8),.int .i64 (ix c 9),.int .i64 (ix c 10),.int .i64 (ix c 11)]
theorem X0s {w:World} {g:Nat} {T:TypeId} {t:Tree} {fv:Value} {c:List Int} {nb:Int} {gv:Value} (h:Blk w g T (outA t.size fv c nb gv)):Part w g 0 (evA t c fv):=by
 intro k hk;have hk14:k < 14:=hk;rw [Nat.zero_add,h.cell k];have:k = 0 ∨ k = 1 ∨ k = 2 ∨ k = 3 ∨ k = 4 ∨ k = 5 ∨ k = 6 ∨ k = 7 ∨ k = 8 ∨ k = 9 ∨ k = 10 ∨ k = 11 ∨ k = 12 ∨ k = 13:=by omega
 rcases this with rfl | rfl | rfl | rfl | rfl | rfl | rfl | rfl | rfl | rfl | rfl | rfl | rfl | rfl <;> rfl
theorem Tryz.Z7l (w:World):(isAgg 126).run Tryz.prog w = .ok true w:=by kernel_rfl
theorem Tryz.Y8l (w:World):(sizeOf 126).run Tryz.prog w = .ok 14 w:=by kernel_rfl
def Q2t (p:Prop):Prop:=p
theorem halted {p:Prop} (h:Q2t p):p:=h
def Z2h (t:Tree) (k s:Nat):Bool:=s.testBit k && t.fails (evN s) && !t.fails (evN (Q2m s (2 ^ k)))
def X2a {N:Nat} (t:Tree) (k:Nat):List (Fin N) -> Nat
 | []=>0
 | x :: l=>(if Z2h t k x.1 then 1 else 0) + X2a t k l
theorem X7k {N:Nat} (t:Tree) (k:Nat) (x:Fin N):∀ l,X2a t k (l ++ [x]) = X2a t k l + if Z2h t k x.1 then 1 else 0
 | []=>by simp [X2a]
 | y :: l=>by rw [List.cons_append,X2a,X2a,X7k t k x l,Nat.add_assoc]
theorem Y5b {N:Nat} (t:Tree) (k:Nat):∀ l:List (Fin N),X2a t k l <= l.length
 | []=>Nat.le_refl _
 | x :: l=>by
   have:=Y5b t k l;rw [X2a,List.length_cons]
   split <;> omega
def Q7y (t:Tree) (n:Int):Nat:=if Q0h t [n] = 0 then X2a t n.toNat (List.finRange (2 ^ t.size)) else 0
theorem X9w (w:World) (v:Value) (t:Tree) (n:Int) (ht:IsTree w v t) :
    Calls Tryz.prog 38 #[v,.int .i64 n] w fun e w'=>e = .returned (.tuple #[.int .i64 (Q7y t n),.int .i64 (Q0h t [n])]) /\ Ext w w':=by
 obtain ⟨a,b,c,rfl,h3⟩:=ht;obtain ⟨A,capa,rfl,hl1,hcap1,_⟩:=h3.basics.opened;obtain ⟨B,capb,rfl,hl2,hcap2,_⟩:=h3.causes.opened;obtain ⟨G,capg,rfl,hl3,hcap3,_⟩:=h3.gates.opened;have HT0:=Lib.hid h3;clear h3;refine (callsIn_wide (n:=9)).1 ?_;refine callsIn_of_wp_marks Tryz.func38 rfl trivial ?_ rfl;simp only [Tryz.ntmps38,List.size_toArray,List.length_cons,List.length_nil,Nat.reduceAdd,Nat.reduceSub,Array.replicate_succ,Array.replicate_zero,List.push_toArray,List.append_toArray,List.nil_append,List.cons_append]
 gi_wp2_with (refine ⟨trivial,?_⟩; gi_at_call 90; refine halted ?_)
 change CallsIn _ _ _ _ _ ((w.alloc (.cells #[.slice A t.basics.length capa,.slice B t.causes.length capb,.slice G t.gates.length capg] 33)).alloc (.cells #[.int .i64 n] 3)) _;obtain ⟨W,hWW,k0,k1,HXW,eW⟩:=Q5l w 33 #[.slice A t.basics.length capa,.slice B t.causes.length capb,.slice G t.gates.length capg] 3 #[.int .i64 n];rw [hWW];clear hWW;have HT:=Lib.hid (HT0.out.ext HXW.out);refine (callsIn_wide.2 (Q6m _ _ t n ⟨_,_,_,rfl,HT.out⟩)).mono ?_;rintro e w1 ⟨rfl,hx1⟩;have kt:=k0.ext hx1;have c0:=kt.cell 0;have c1:=kt.cell 1;have c2:=kt.cell 2;simp only [Go.Tw.gA,Go.Tw.gB,Go.Tw.gC] at c0 c1 c2;have HXX:=Lib.hid (HXW.out.trans hx1);have HX1:=Lib.hid hx1;clear kt hx1;have kn:=k1.ext HX1.out;clear k0 k1
 by_cases he:Q0h t [n] = 0
 . have HR:Hid (Q7y t n = X2a t n.toNat (List.finRange (2 ^ t.size))):=Lib.hid (by unfold Q7y; rw [if_pos he])
   have hz:=Q4g he;have hse:=Q2x hz.2;have hn0:=hse.1 n (List.mem_singleton.2 rfl);have HV:=Lib.hid hz.1;have HE0:=Lib.hid he;have hsz:=hz.1.size;have hne:(Q0h t [n] != 0) = false:=by simp [he]
   obtain ⟨E,hE⟩:∃ E,Q0h t [n] = E:=⟨_,rfl⟩;have HEE:=Lib.hid hE;rw [hE] at hne HE0 ⊢;clear he hz hse hE
   gi_wp2_with (refine ⟨trivial,?_⟩; gi_at_call 70; refine halted ?_)
   refine (callsIn_wide.2 (Q3i _ _ t HV.out ⟨_,_,_,rfl,HT.out.ext HX1.out⟩)).mono ?_;rintro e w2 ⟨fv,gv,rfl,hn,hx2⟩;obtain ⟨A1,cap1,rfl,_,_,_⟩:=hn.fails.opened;obtain ⟨A2,cap2,rfl,_,_,_⟩:=hn.gates.opened;rw [Q2g] at hn ⊢;have HN:=Lib.hid hn;have HX2:=Lib.hid hx2;clear hn hx2 c0 c1 c2;replace kn:=kn.ext HX2.out;have hbl:=kn.lt
   gi_wp2_with (first | (refine Q6z rfl _ _ rfl Tryz.Z7l Tryz.Y8l rfl ((X0s hb9).ext (Ext.box _ _)) rfl ?_) | (refine Q6x rfl _ _ 129 rfl Tryz.Q0r rfl rfl (Blk.made _ _ _) rfl rfl ?_ ?_; (focus (intro u hu; simp [outA] at hu; rcases hu with rfl | rfl | rfl | rfl | rfl | rfl | rfl | rfl | rfl | rfl | rfl | rfl | rfl | rfl | rfl | rfl <;> rfl)); intro w9 hb9 hl9 ho9) | (refine ⟨trivial,?_⟩; gi_at_call 94; refine halted ?_))
   have hx9:Ext w2 w9:=Below.trans (Ext.box w2 _) (hl9 _ (Nat.le_refl _));have HXX9:Hid (Ext w w9):=by exact (HXX.out.trans HX2.out).trans hx9
   have HN9:=Lib.hid (HN.out.ext hx9);have hB9:=hb9.lt;have k2:=(kn.ext hx9).ext (Ext.box w9 (.cells #[.int .i64 0] 3));have k1:=hb9.ext (Ext.box w9 (.cells #[.int .i64 0] 3));have k3:=Blk.made w9 3 #[.int .i64 0];have x3:=Ext.box w9 (.cells #[.int .i64 0] 3);have es3:(w9.alloc (.cells #[.int .i64 0] 3)).heap.size = w9.heap.size + 1:=by simp
   have hbk:=(kn.ext hx9).lt;obtain ⟨X3,hX3⟩:∃ X,w9.alloc (.cells #[.int .i64 0] 3) = X:=⟨_,rfl⟩;rw [hX3] at k1 k2 k3 x3 es3 ⊢;clear hX3 hl9 ho9 hb9 kn hbl;change CallsIn _ _ _ _ #[evV t t.Q0b (.slice A1 t.size cap1)] X3 _;refine (callsIn_wide.2 (X1d _ t t.Q0b A1 t.size cap1)).mono ?_;rintro e w' ⟨rfl,hce,hse,hxe⟩;replace k1:=k1.ext hxe;replace k2:=k2.ext hxe;replace k3:=k3.ext hxe;have HXW:=Lib.hid ((HXX9.out.trans x3).trans hxe);rw [es3] at hce hse ⊢;obtain ⟨b,hbb⟩:∃ b,w9.heap.size = b:=⟨_,rfl⟩;obtain ⟨g,hgg⟩:∃ g,w2.heap.size = g:=⟨_,rfl⟩;rw [hbb] at k3 hce hse hB9 hbk ⊢;rw [hgg] at k1 hB9 ⊢;obtain ⟨k,rfl⟩:∃ k:Nat,n = (k:Int):=⟨n.toNat,by omega⟩
   rw [Int.toNat_natCast] at HR;have hk:k < t.size:=by omega
   have HN':Hid (∀ W,Below b w' W -> Y2t W (.slice A1 t.size cap1) (.slice A2 t.gates.length cap2) t):=Lib.hid (fun W hB=>HN9.out.ext (Below.trans (x3.trans hxe) (hB.mono (by omega))))
   clear x3 hxe hx9 hbb hgg es3;have HK1:Hid (Blk w' g 129 (outA t.size (.slice A1 t.size cap1) t.Q0b t.basics.length (.slice A2 t.gates.length cap2))):=by exact k1
   have HK2:=Lib.hid k2;clear k1 k2
   gi_wp2
   refine wpIn_rangeFunc_ownF (n:=9) rfl (by omega) (gf:=138) (lb:=#[.pointer (some ⟨b + 1,0,none⟩)]) rfl trivial (enters_of Tryz.func138 (by kernel_rfl) rfl)
    (X0b _ (b + 1) (2 ^ t.size) w' t rfl hsz hce) (fun _ _=>trivial) (fun _ _ _ _ _ _ _ _=>trivial) (Below.refl _ _) (fun _=>rfl)
    (fun pre W=>Blk W b 3 #[.int .i64 (X2a t k pre)] /\ Below b w' W)
    (fun _ _ _=>False)
    (OwnFrom.and (Own.from (Blk.own _ _ _) _) (ownFrom_below (by omega) (by omega)))
    (fun _ _ _ _ _ hs _ _=>hs)
    ⟨k3,Below.refl _ _⟩
    (fun x=>{ tmps:=#[.agg #[.slice A t.basics.length capa,.slice B t.causes.length capb,.slice G t.gates.length capg],.int .i64 k,.pointer (some ⟨w.heap.size,0,none⟩),.pointer (some ⟨w.heap.size + 1,0,none⟩),.int .i64 0,.int .i64 0,.int .i64 E,.pointer (some ⟨g,0,none⟩),.pointer (some ⟨b,0,none⟩),.int .i64 x.1,.agg #[.slice A t.basics.length capa,.slice B t.causes.length capb,.slice G t.gates.length capg],.int .i64 k,.int .i64 E,.int .i64 E,.bool false,undef,.agg #[.slice A t.basics.length capa,.slice B t.causes.length capb,.slice G t.gates.length capg],noV t t.Q0b (.slice A1 t.size cap1) (.slice A2 t.gates.length cap2),.pointer (some ⟨g,0,none⟩),evV t t.Q0b (.slice A1 t.size cap1),.func (.func 138) #[] #[.pointer (some ⟨b + 1,0,none⟩)],.int .i64 x.1,undef,undef,undef,undef,undef,undef,undef,undef,undef,undef,undef,undef,undef,undef,undef,undef,undef,undef,undef,undef,undef,undef],defers:=[] }) ?assign ?body ?done ?stop
   case assign =>
    intro l x W K hK
    gi_wp2
    exact hK
   case stop =>
    rintro D cc pre W _ _ h _;exact h.elim
   case done =>
    rintro D ys W hD rfl ⟨hb,hB⟩ hK;have hcell:=hb.cell 0
    gi_wp2
    refine ⟨by simp,.inl ⟨_,_,rfl,run_takeDeferred hK,?_⟩⟩
    exact ⟨_,results_tmp2 rfl _ _ _,by rw [HR.out,HEE.out,HE0.out]; rfl,Below.trans (Below.trans HXW.out (hB.mono (by omega))) (belowK_b (w:=w) (Nat.le_refl _) W D _ _ (by have:=HXW.out.size; omega) hK rfl rfl)⟩
   case body =>
    rintro l pre x W ⟨hb,hB⟩ hpl;obtain ⟨x,hxN⟩:=x;dsimp only;have h12:(2:Nat) ^ t.size <= 2 ^ 12:=Nat.pow_le_pow_right (by omega) hsz
    have hww:=HXW.out.size;have b1:=HK1.out.below hB (by omega)
    have b2:=HK2.out.below hB (by omega)
    have c2:W.cell? ⟨w.heap.size + 1,0,none⟩ = some (.int .i64 k):=b2.cell 0;have c3:W.cell? ⟨b,0,none⟩ = some (.int .i64 (X2a t k pre)):=hb.cell 0;have f3:W.frozen? ⟨b,0,none⟩ = false:=hb.frozen 0;have hlW:b < W.heap.size:=hb.lt;have hnW:Y2t W (.slice A1 t.size cap1) (.slice A2 t.gates.length cap2) t:=HN'.out W hB;have hs1:=Y5b t k pre;have HSN:=Lib.hid (X7k t k ⟨x,hxN⟩ pre);have HB:=Lib.hid hB;have HC':=Lib.hid hb;have HB1:=Lib.hid b1;have hpw0:(2:Nat) ^ k < 2 ^ 62:=Nat.pow_lt_pow_right (by omega) (by omega)
    have hbt:=Q9p (s:=x) (by omega) k
    have han:=Q9s (a:=x) (b:=2 ^ k) (by omega) hpw0
    have hcl:=Q6p (2 ^ k) hxN;have HCX:=Lib.hid (fun w' (hx:Ext W w')=>Q7t w' _ _ t t.Q0b x HV.out hxN (hnW.ext hx));have HCY:=Lib.hid (fun w' (hx:Ext W w')=>Q7t w' _ _ t t.Q0b (Q2m x (2 ^ k)) HV.out hcl (hnW.ext hx));obtain ⟨Z,hZ⟩:∃ Z,2 ^ k = Z:=⟨_,rfl⟩;rw [hZ] at hpw0 han HCY hcl;have hpw:IntKind.i64.wrap ((2:Int) ^ k) = (Z:Int):=Z5a hZ hpw0;have hcb:Z2h t k x = (x.testBit k && t.fails (evN x) && !t.fails (evN (Q2m x Z))):=by unfold Z2h; rw [hZ]
    dsimp only at HSN;rw [hcb] at HSN;obtain ⟨Y,hY⟩:∃ Y,Q2m x Z = Y:=⟨_,rfl⟩;obtain ⟨f1,hf1⟩:∃ f,t.fails (evN x) = f:=⟨_,rfl⟩;rw [hY] at han HCY HSN hcl;obtain ⟨f2,hf2⟩:∃ f,t.fails (evN Y) = f:=⟨_,rfl⟩;rw [hf1] at HCX HSN;rw [hf2] at HCY HSN;obtain ⟨nb,hnb⟩:∃ nb,(!x.testBit k) = nb:=⟨_,rfl⟩;have hbn:x.testBit k = !nb:=by rw [<- hnb,Bool.not_not]
    rw [hbn] at hbt HSN;obtain ⟨nc,hnc⟩:∃ nc,(!(!nb && f1)) = nc:=⟨_,rfl⟩;have HNC:Hid ((!nb && f1) = !nc):=Lib.hid (by rw [<- hnc,Bool.not_not])
    rw [HNC.out] at HSN;obtain ⟨S,hS⟩:∃ S,X2a t k pre = S:=⟨_,rfl⟩;rw [hS] at c3 HC' HSN hs1;have hkI:(k:Int) < 64:=by omega
    have hSI:(S:Int) <= 4096:=by have:=hpl; omega
    have hdr:=(Ext.refl W).drew;clear hZ hpw0 hcb hY hf1 hf2 hnb hbn hnc hS hb hB b1 b2 hnW hcl h12 hs1 hpl hww
    gi_wp2
    refine Flow.Y0k [.p,.w,.p,.p,.p,.p,.w,.p,.w,.p,.p,.w,.p,.w,.p,.p,.w,.p,.p] [0,1,2,3,4,5,6,7,8,9,10,11,12,13,14,15,16,17,18] [[],[],[0,1],[2],[3],[4],[5],[5],[5,6,7],[5,8],[8,9],[10],[10],[10],[10,13],[10,12,14],[10,11,15],[10,16],[10,17]]
     [.c 0 (.int .i64 x),.c 1 (.int .i64 k),.c 2 (.int .i64 ((x:Int) / 2 ^ k)),.c 3 (.int .i64 (bits .and .i64 ((x:Int) / 2 ^ k) 1)),.c 4 (.bool (!nb)),.c 5 (.bool (!nb)),.c 6 (Q2o nb (noV t t.Q0b (.slice A1 t.size cap1) (.slice A2 t.gates.length cap2))),.c 7 (Q2o nb (.int .i64 x)),.c 8 (Q2o nb (.bool f1)),.c 9 (.bool (!nb && f1)),.c 10 (.bool (!nc)),.c 11 (Q2o nc (noV t t.Q0b (.slice A1 t.size cap1) (.slice A2 t.gates.length cap2))),.c 12 (Q2o nc (.int .i64 x)),.c 13 (Q2o nc (.int .i64 k)),.c 14 (Q2o nc (.int .i64 (Z:Nat))),.c 15 (Q2o nc (.int .i64 (Y:Nat))),.c 16 (Q2o nc (.bool f2)),.c 17 (Q2o nc (.bool (!f2))),.c 18 (.bool (!nc && !f2))]
     (by kernel_rfl) (by kernel_rfl) rfl (by kernel_rfl) ⟨?g0,?g1,?g2,?g3,?g4,?g5,?g6,?g7,?g8,?g9,?g10,?g11,?g12,?g13,?g14,?g15,?g16,?g17,?g18,trivial⟩ ?post
    case g0=>
     intro v w1 hx;intro bb hbb;subst hbb;refine ⟨_,fun w=>?_,rfl⟩;go_simp
    case g1=>
     intro v w1 hx;intro bb hbb;subst hbb;have c2:=hx.cell c2;intro K hK;go_simp;exact hK _ _ (Ext.refl _) rfl
    case g2 | g3 | g4 | g5=>
     intro v w1 hx;(repeat intro (zq:v _ = _));intro bb hbb;subst hbb;refine ⟨_,fun w=>?_,rfl⟩;go_simp
    case g6=>
     intro v w1 hx;(repeat intro (zq:v _ = _));intro bb hbb;have c2:=hx.cell c2;cases nb with
     | true=>exact Flow.Q2c (d:=27) rfl rfl (by rw [hbb]; simp only [size_put]; exact (by decide:27 < 44)) (by rw [hbb]; dsimp only; (try simp (discharger:=decide) only [eval_put_ne]); rw [Q0a (by simp only [size_put]; exact (by decide:27 < 44))]; assumption) rfl
     | false =>
       refine Flow.Q0p (d:=27) rfl rfl (by rw [hbb]; simp only [size_put]; exact (by decide:27 < 44)) (by rw [hbb]; dsimp only; (try simp (discharger:=decide) only [eval_put_ne]); rw [Q0a (by simp only [size_put]; exact (by decide:27 < 44))]; assumption) ?_
       intro K hK;have o1:bb.eval (.tmp 7) = .pointer (some ⟨g,0,none⟩):=by rw [hbb]; dsimp only; (try simp (discharger:=decide) only [eval_put_ne]); rfl
       exact Q0n (.tmp 7) _ rfl Tryz.Q1s Tryz.Q0r o1 (HB1.out.ext (hdr.trans hx)) rfl (hK _ _ (Ext.refl _) rfl)
    case g7=>
     intro v w1 hx;(repeat intro (zq:v _ = _));intro bb hbb;cases nb with
     | true=>exact Flow.Q2c (d:=27) rfl rfl (by rw [hbb]; simp only [size_put]; exact (by decide:27 < 44)) (by rw [hbb]; dsimp only; (try simp (discharger:=decide) only [eval_put_ne]); rw [Q0a (by simp only [size_put]; exact (by decide:27 < 44))]; assumption) rfl
     | false =>
       refine Flow.Q0p (d:=27) rfl rfl (by rw [hbb]; simp only [size_put]; exact (by decide:27 < 44)) (by rw [hbb]; dsimp only; (try simp (discharger:=decide) only [eval_put_ne]); rw [Q0a (by simp only [size_put]; exact (by decide:27 < 44))]; assumption) ?_
       subst hbb;refine ⟨_,fun w=>?_,rfl⟩;go_simp
    case g8=>
     intro v w1 hx (q5:v 5 = _) (q6:v 6 = Q2o nb (noV t t.Q0b (.slice A1 t.size cap1) (.slice A2 t.gates.length cap2))) (q7:v 7 = Q2o nb (.int .i64 x));intro bb hbb;have c2:=hx.cell c2;cases nb with
     | true=>exact Flow.Q2c (d:=27) rfl rfl (by rw [hbb]; simp only [size_put]; exact (by decide:27 < 44)) (by rw [hbb]; dsimp only; (try simp (discharger:=decide) only [eval_put_ne]); rw [Q0a (by simp only [size_put]; exact (by decide:27 < 44))]; exact q5) rfl
     | false =>
       replace q6:v 6 = noV t t.Q0b (.slice A1 t.size cap1) (.slice A2 t.gates.length cap2):=q6;replace q7:v 7 = .int .i64 x:=q7;refine Flow.Q0p (d:=27) rfl rfl (by rw [hbb]; simp only [size_put]; exact (by decide:27 < 44)) (by rw [hbb]; dsimp only; (try simp (discharger:=decide) only [eval_put_ne]); rw [Q0a (by simp only [size_put]; exact (by decide:27 < 44))]; exact q5) ?_
       subst hbb;intro K hK;go_simp;refine Q0d (HCX.out w1 (hdr.trans hx)) ?_;rintro e w2 ⟨rfl,hx2⟩;exact ⟨_,rfl,hK _ _ hx2 rfl⟩
    case g9=>
     intro v w1 hx (q5:v 5 = _) (q8:v 8 = Q2o nb (.bool f1));intro bb hbb;subst hbb;have c2:=hx.cell c2;refine ⟨.bool (!nb && f1),fun w=>?_,rfl⟩;cases nb with
     | true=>go_simp
     | false=>go_simp; rfl
    case g10=>
     intro v w1 hx (q8:v 8 = Q2o nb (.bool f1)) (q9:v 9 = _);intro bb hbb;subst hbb;have c2:=hx.cell c2;have e9:v 9 = .bool (!nc):=q9.trans (congrArg Value.bool HNC.out);clear q9;refine ⟨_,fun w=>?_,rfl⟩;go_simp
    case g11=>
     intro v w1 hx;(repeat intro (zq:v _ = _));intro bb hbb;have c2:=hx.cell c2;cases nc with
     | true=>exact Flow.Q2c (d:=32) rfl rfl (by rw [hbb]; simp only [size_put]; exact (by decide:32 < 44)) (by rw [hbb]; dsimp only; (try simp (discharger:=decide) only [eval_put_ne]); rw [Q0a (by simp only [size_put]; exact (by decide:32 < 44))]; assumption) rfl
     | false =>
       refine Flow.Q0p (d:=32) rfl rfl (by rw [hbb]; simp only [size_put]; exact (by decide:32 < 44)) (by rw [hbb]; dsimp only; (try simp (discharger:=decide) only [eval_put_ne]); rw [Q0a (by simp only [size_put]; exact (by decide:32 < 44))]; assumption) ?_
       intro K hK;have o1:bb.eval (.tmp 7) = .pointer (some ⟨g,0,none⟩):=by rw [hbb]; dsimp only; (try simp (discharger:=decide) only [eval_put_ne]); rfl
       exact Q0n (.tmp 7) _ rfl Tryz.Q1s Tryz.Q0r o1 (HB1.out.ext (hdr.trans hx)) rfl (hK _ _ (Ext.refl _) rfl)
    case g12=>
     intro v w1 hx;(repeat intro (zq:v _ = _));intro bb hbb;cases nc with
     | true=>exact Flow.Q2c (d:=32) rfl rfl (by rw [hbb]; simp only [size_put]; exact (by decide:32 < 44)) (by rw [hbb]; dsimp only; (try simp (discharger:=decide) only [eval_put_ne]); rw [Q0a (by simp only [size_put]; exact (by decide:32 < 44))]; assumption) rfl
     | false =>
       refine Flow.Q0p (d:=32) rfl rfl (by rw [hbb]; simp only [size_put]; exact (by decide:32 < 44)) (by rw [hbb]; dsimp only; (try simp (discharger:=decide) only [eval_put_ne]); rw [Q0a (by simp only [size_put]; exact (by decide:32 < 44))]; assumption) ?_
       subst hbb;refine ⟨_,fun w=>?_,rfl⟩;go_simp
    case g13=>
     intro v w1 hx;(repeat intro (zq:v _ = _));intro bb hbb;have c2:=hx.cell c2;cases nc with
     | true=>exact Flow.Q2c (d:=32) rfl rfl (by rw [hbb]; simp only [size_put]; exact (by decide:32 < 44)) (by rw [hbb]; dsimp only; (try simp (discharger:=decide) only [eval_put_ne]); rw [Q0a (by simp only [size_put]; exact (by decide:32 < 44))]; assumption) rfl
     | false =>
       refine Flow.Q0p (d:=32) rfl rfl (by rw [hbb]; simp only [size_put]; exact (by decide:32 < 44)) (by rw [hbb]; dsimp only; (try simp (discharger:=decide) only [eval_put_ne]); rw [Q0a (by simp only [size_put]; exact (by decide:32 < 44))]; assumption) ?_
       subst hbb;intro K hK;go_simp;exact hK _ _ (Ext.refl _) rfl
    case g14=>
     intro v w1 hx (q10:v 10 = _) (q13:v 13 = Q2o nc (.int .i64 k));intro bb hbb;have c2:=hx.cell c2;cases nc with
     | true=>exact Flow.Q2c (d:=32) rfl rfl (by rw [hbb]; simp only [size_put]; exact (by decide:32 < 44)) (by rw [hbb]; dsimp only; (try simp (discharger:=decide) only [eval_put_ne]); rw [Q0a (by simp only [size_put]; exact (by decide:32 < 44))]; exact q10) rfl
     | false =>
       replace q13:v 13 = .int .i64 k:=q13;refine Flow.Q0p (d:=32) rfl rfl (by rw [hbb]; simp only [size_put]; exact (by decide:32 < 44)) (by rw [hbb]; dsimp only; (try simp (discharger:=decide) only [eval_put_ne]); rw [Q0a (by simp only [size_put]; exact (by decide:32 < 44))]; exact q10) ?_
       subst hbb;refine ⟨_,fun w=>?_,rfl⟩;go_simp
    case g15=>
     intro v w1 hx (q10:v 10 = _) (q12:v 12 = Q2o nc (.int .i64 x)) (q14:v 14 = Q2o nc (.int .i64 (Z:Nat)));intro bb hbb;have c2:=hx.cell c2;cases nc with
     | true=>exact Flow.Q2c (d:=32) rfl rfl (by rw [hbb]; simp only [size_put]; exact (by decide:32 < 44)) (by rw [hbb]; dsimp only; (try simp (discharger:=decide) only [eval_put_ne]); rw [Q0a (by simp only [size_put]; exact (by decide:32 < 44))]; exact q10) rfl
     | false =>
       replace q12:v 12 = .int .i64 x:=q12;replace q14:v 14 = .int .i64 (Z:Nat):=q14;refine Flow.Q0p (d:=32) rfl rfl (by rw [hbb]; simp only [size_put]; exact (by decide:32 < 44)) (by rw [hbb]; dsimp only; (try simp (discharger:=decide) only [eval_put_ne]); rw [Q0a (by simp only [size_put]; exact (by decide:32 < 44))]; exact q10) ?_
       subst hbb;refine ⟨_,fun w=>?_,rfl⟩;go_simp
    case g16=>
     intro v w1 hx (q10:v 10 = _) (q11:v 11 = Q2o nc (noV t t.Q0b (.slice A1 t.size cap1) (.slice A2 t.gates.length cap2))) (q15:v 15 = Q2o nc (.int .i64 (Y:Nat)));intro bb hbb;have c2:=hx.cell c2;cases nc with
     | true=>exact Flow.Q2c (d:=32) rfl rfl (by rw [hbb]; simp only [size_put]; exact (by decide:32 < 44)) (by rw [hbb]; dsimp only; (try simp (discharger:=decide) only [eval_put_ne]); rw [Q0a (by simp only [size_put]; exact (by decide:32 < 44))]; exact q10) rfl
     | false =>
       replace q11:v 11 = noV t t.Q0b (.slice A1 t.size cap1) (.slice A2 t.gates.length cap2):=q11;replace q15:v 15 = .int .i64 (Y:Nat):=q15;refine Flow.Q0p (d:=32) rfl rfl (by rw [hbb]; simp only [size_put]; exact (by decide:32 < 44)) (by rw [hbb]; dsimp only; (try simp (discharger:=decide) only [eval_put_ne]); rw [Q0a (by simp only [size_put]; exact (by decide:32 < 44))]; exact q10) ?_
       subst hbb;intro K hK;go_simp;refine Q0d (HCY.out w1 (hdr.trans hx)) ?_;rintro e w2 ⟨rfl,hx2⟩;exact ⟨_,rfl,hK _ _ hx2 rfl⟩
    case g17=>
     intro v w1 hx (q10:v 10 = _) (q16:v 16 = Q2o nc (.bool f2));intro bb hbb;have c2:=hx.cell c2;cases nc with
     | true=>exact Flow.Q2c (d:=32) rfl rfl (by rw [hbb]; simp only [size_put]; exact (by decide:32 < 44)) (by rw [hbb]; dsimp only; (try simp (discharger:=decide) only [eval_put_ne]); rw [Q0a (by simp only [size_put]; exact (by decide:32 < 44))]; exact q10) rfl
     | false =>
       replace q16:v 16 = .bool f2:=q16;refine Flow.Q0p (d:=32) rfl rfl (by rw [hbb]; simp only [size_put]; exact (by decide:32 < 44)) (by rw [hbb]; dsimp only; (try simp (discharger:=decide) only [eval_put_ne]); rw [Q0a (by simp only [size_put]; exact (by decide:32 < 44))]; exact q10) ?_
       subst hbb;refine ⟨_,fun w=>?_,rfl⟩;go_simp
    case g18=>
     intro v w1 hx (q10:v 10 = _) (q17:v 17 = Q2o nc (.bool (!f2)));intro bb hbb;subst hbb;have c2:=hx.cell c2;refine ⟨.bool (!nc && !f2),fun w=>?_,rfl⟩;cases nc with
     | true=>go_simp
     | false=>go_simp; rfl
    case post =>
     intro v w1 hx;(iterate 6 intro (zq:v _ = _));intro (q6:v 6 = Q2o nb (noV t t.Q0b (.slice A1 t.size cap1) (.slice A2 t.gates.length cap2))) (q7:v 7 = Q2o nb (.int .i64 x)) (q8:v 8 = Q2o nb (.bool f1));(iterate 2 intro (zq:v _ = _));intro (q11:v 11 = Q2o nc (noV t t.Q0b (.slice A1 t.size cap1) (.slice A2 t.gates.length cap2))) (q12:v 12 = Q2o nc (.int .i64 x)) (q13:v 13 = Q2o nc (.int .i64 k)) (q14:v 14 = Q2o nc (.int .i64 (Z:Nat))) (q15:v 15 = Q2o nc (.int .i64 (Y:Nat))) (q16:v 16 = Q2o nc (.bool f2)) (q17:v 17 = Q2o nc (.bool (!f2)));(iterate 1 intro (zq:v _ = _));simp only [Flow.All,Flow.acts,Act.put];go_simp;have hxx:=hdr.trans hx;have g3:=hxx.cell c3;have gf:=(hxx.frozen (p:=⟨b,0,none⟩) hlW).trans f3;have HX:=Lib.hid hxx;obtain ⟨r,hr⟩:∃ r,(!nc && !f2) = r:=⟨_,rfl⟩;rw [hr] at HSN;rw [hr];clear hr hxx hx c2 c3 f3;cases r with
     | false =>
       gi_wp2
       exact ⟨Q4c HX.out,trivial,by rw [HSN.out,if_neg (by decide),Nat.add_zero]; exact HC'.out.ext HX.out,HB.out.trans (HX.out.mono (by omega))⟩
     | true =>
       gi_wp2
       exact ⟨(Q4c HX.out).trans (KeepsOthers.setCell _ _ _),trivial,by rw [HSN.out,if_pos trivial]; exact (HC'.out.ext HX.out).set 0 _,(HB.out.trans (HX.out.mono (by omega))).setCell (p:=⟨b,0,none⟩) (Nat.le_refl _) _⟩
 . have HR:Hid (Q7y t n = 0):=Lib.hid (by unfold Q7y; rw [if_neg he])
   have hne:(Q0h t [n] != 0) = true:=by simp [he]
   obtain ⟨E,hE⟩:∃ E,Q0h t [n] = E:=⟨_,rfl⟩;have HEE:=Lib.hid hE;rw [hE] at hne ⊢;clear he hE
   gi_wp2
   exact ⟨_,results_tmp2 rfl _ _ _,by rw [HR.out,HEE.out]; rfl,HXX.out⟩
end Go.Proofs
namespace Go.Proofs
open Go.RowKit Go.Tw Go.Flow
theorem Y8a (w:World) (v:Value) (l:List Int) (x:Int) (hv:Q0e w v l) :
    Calls Tryz.prog 126 #[v,.int .i64 x] w fun e w'=>∃ r:Int,e = .returned (.int .i64 r) /\ decide (0 <= r) = has l x /\ w = w':=by
 obtain ⟨A,cap,rfl,hl,hcap,hc⟩:=hv.opened;clear hv;go_enter Tryz.func126,Tryz.ntmps126;go_wp2
 go_loop [8] (fun i=>∃ k:Nat,k <= l.length /\ i = .int .i64 k /\ has (l.drop k) x = has l x) (fun i=>l.length - (intOf i).toNat)
 case atStart=>exact ⟨0,Nat.zero_le _,rfl,rfl⟩
 case round =>
  obtain ⟨k,hk,rfl,hr⟩:=hrel;have HR:=Lib.hid hr; clear hr
  by_cases hlt:k < l.length
  . obtain ⟨b,off,rfl,hcell⟩:=hc k hlt
    clear hc
    by_cases hx:ix l k = x
    . have HX:=Lib.hid hx
      have hx1:(x == ix l k) = true:=by simp [hx]
      clear hx;go_wp2;go_ret;exact ⟨k,rfl,by rw [<- HR.out,Q3k hlt,X4b,HX.out]; simp,rfl⟩
    . have hx1:(x == ix l k) = false:=by rw [beq_eq_false_iff_ne]; exact fun e=>hx e.symm
      have HX:=Lib.hid hx; clear hx;go_wp2;go_round
      case rel=>exact ⟨k + 1,by omega,by go_num,by rw [<- HR.out,Q3k hlt,X4b,beq_false_of_ne HX.out,Bool.false_or]⟩
      case measure=>simp [intOf]; omega
  . clear hc
    go_wp2;go_ret;exact ⟨-1,rfl,by rw [<- HR.out,List.drop_eq_nil_of_le (by omega)]; rfl,rfl⟩
theorem X1t (w:World) (v:Value) (l:List Int) (x:Int) (hv:Q0e w v l) :
    Calls Tryz.prog 78 #[v,.int .i64 x] w fun e w'=>e = .returned (.bool (has l x)) /\ w = w':=by
 obtain ⟨A,cap,rfl,hl,hcap,hc⟩:=hv.opened;have HV:=Lib.hid hv;clear hv hc;go_enter Tryz.func78,Tryz.ntmps78;go_wp2_with (go_at_call 126; refine (Y8a _ _ l x HV.out).mono ?_; rintro e w' ⟨r,rfl,hr,rfl⟩; have HR:=Lib.hid hr; clear hr);go_ret;exact ⟨Q1j HR.out,rfl⟩
theorem Y4q (w:World) (v:Value) (l:List Int) (g:Nat) (c:Value) (p:Int -> Bool) (hv:Q0e w v l) (eg:∀ args w,(callFunc g args).run Tryz.prog w = .ok (.enter g args) w)
    (hp:∀ W x,Ext w W -> x ∈ l -> Calls Tryz.prog g #[.int .i64 x,c] W fun e W'=>e = .returned (.bool (p x)) /\ Ext W W') :
    Calls Tryz.prog 125 #[v,.func (.func g) #[] #[c]] w fun e w'=>∃ r:Int,e = .returned (.int .i64 r) /\ decide (0 <= r) = l.any p /\ Ext w w':=by
 obtain ⟨A,cap,rfl,hl,hcap,hc⟩:=hv.opened;have HP:=Lib.hid hp;have HC:=Lib.hid hc;clear hv hp hc;go_enter Tryz.func125,Tryz.ntmps125;go_wp2
 go_loopw [8] (fun i wr=>∃ k:Nat,k <= l.length /\ i = .int .i64 k /\ (l.drop k).any p = l.any p /\ Ext w wr) (fun i _=>l.length - (intOf i).toNat)
 case atStart=>exact ⟨0,Nat.zero_le _,rfl,rfl,Ext.refl _⟩
 case round =>
  obtain ⟨k,hk,rfl,hr,hx⟩:=hrel;have HR:=Lib.hid hr; clear hr
  by_cases hlt:k < l.length
  . obtain ⟨b,off,rfl,hcell⟩:=HC.out k hlt
    replace hcell:=hx.cell hcell;have hmem:ix l k ∈ l:=by rw [Q6t hlt]; exact List.getElem_mem hlt
    have hd:=Q3k hlt;have HST:Hid (l.any p = (p (ix l k) || (l.drop (k + 1)).any p)):=Lib.hid (by rw [<- HR.out,hd,List.any_cons])
    obtain ⟨y,hy⟩:∃ y,ix l k = y:=⟨_,rfl⟩;have HPY:=Lib.hid (HP.out wr (ix l k) hx hmem);rw [hy] at HPY hcell HST;obtain ⟨q,hq⟩:∃ q,p y = q:=⟨_,rfl⟩;rw [hq] at HPY HST;clear hq hy hd hmem;cases q with
    | true =>
      go_wp2_with (refine HPY.out.mono ?_; rintro e w9 ⟨rfl,hx9⟩);go_ret;exact ⟨k,rfl,by rw [HST.out]; simp,hx.trans hx9⟩
    | false =>
      go_wp2_with (refine HPY.out.mono ?_; rintro e w9 ⟨rfl,hx9⟩);go_roundw
      case rel=>exact ⟨k + 1,by omega,by go_num,by rw [HST.out,Bool.false_or],hx.trans hx9⟩
      case measure=>simp [intOf]; omega
  . go_wp2
    go_ret;exact ⟨-1,rfl,by rw [<- HR.out,List.drop_eq_nil_of_le (by omega)]; rfl,hx⟩
theorem Q7p (w:World) (v:Value) (l:List Int) (g:Nat) (c:Value) (p:Int -> Bool) (hv:Q0e w v l) (eg:∀ args w,(callFunc g args).run Tryz.prog w = .ok (.enter g args) w)
    (hp:∀ W x,Ext w W -> x ∈ l -> Calls Tryz.prog g #[.int .i64 x,c] W fun e W'=>e = .returned (.bool (p x)) /\ Ext W W') :
    Calls Tryz.prog 76 #[v,.func (.func g) #[] #[c]] w fun e w'=>e = .returned (.bool (l.any p)) /\ Ext w w':=by
 have HI:=Lib.hid (Y4q w v l g c p hv eg hp);obtain ⟨A,cap,rfl,hl,hcap,hc⟩:=hv.opened;obtain ⟨q,hq⟩:∃ q,l.any p = q:=⟨_,rfl⟩;rw [hq] at HI ⊢;clear hv hc hp hq;go_enter Tryz.func76,Tryz.ntmps76;go_wp2_with (go_at_call 125; refine HI.out.mono ?_; rintro e w' ⟨r,rfl,hr,hx⟩; have HR:=Lib.hid hr; clear hr);go_ret;exact ⟨Q1j HR.out,hx⟩
end Go.Proofs
namespace Go.Proofs
open Go.RowKit Go.Tw Go.Flow
def Q4e (c s:List Int):Nat -> Int
 | 0=>1
 | m + 1=>Q4e c s m * if has s m then ix c m else 16
def Y1c (c:List Int) (n:Nat):List (List Int) -> Int
 | []=>0
 | s :: l=>Q4e c s n + Y1c c n l
theorem Y0s (c:List Int) (n:Nat) (s:List Int):∀ l,Y1c c n (l ++ [s]) = Y1c c n l + Q4e c s n
 | []=>by simp [Y1c]
 | y :: l=>by rw [List.cons_append,Y1c,Y1c,Y0s c n s l,Int.add_assoc]
theorem Y4x {c:List Int} (h:Small c) (s:List Int):∀ m,m <= c.length -> 0 <= Q4e c s m /\ Q4e c s m <= 16 ^ m
 | 0,_=>by simp [Q4e]
 | m + 1,hm=>by
   obtain ⟨h1,h2⟩:=Y4x h s m (by omega)
   have h3:=h.ix (j:=m) (by omega)
   have hf:0 <= (if has s m then ix c m else 16) /\ (if has s m then ix c m else 16) <= 16:=by split <;> omega
   rw [Q4e];refine ⟨Int.mul_nonneg h1 hf.1,?_⟩;rw [Int.pow_succ];exact Int.mul_le_mul h2 hf.2 hf.1 (Int.pow_nonneg (by omega))
theorem X4h {c:List Int} (h:Small c) (s:List Int) {m:Nat} (hm:m <= c.length):0 <= Q4e c s m /\ Q4e c s m <= 281474976710656:=by
 have h1:=Y4x h s m hm;have h2:(16:Int) ^ m <= 16 ^ 12:=by
  have:=h.len
  exact_mod_cast Nat.pow_le_pow_right (n:=16) (by omega) (show m <= 12 by omega)
 exact ⟨h1.1,Int.le_trans h1.2 (Int.le_trans h2 (by decide))⟩
theorem Y4o {c:List Int} (h:Small c) {n:Nat} (hn:n <= c.length):∀ l:List (List Int),0 <= Y1c c n l /\ Y1c c n l <= l.length * 281474976710656
 | []=>by simp [Y1c]
 | s :: l=>by
   have h1:=X4h h s hn;have h2:=Y4o h hn l;rw [Y1c,List.length_cons];have h3:((l.length + 1:Nat):Int) = (l.length:Int) + 1:=by omega
   rw [h3,Int.add_mul];omega
def Y9u (t:Tree):Int:=Y1c t.Q0b t.size (t.sets false)
def X7p (t:Tree):Ratio:=if t.err = 0 then lowest (Y9u t) (Q7g 16 t.size) else ⟨0,0⟩
theorem Y7d (w:World) (v:Value) (t:Tree) (ht:IsTree w v t) (hT:Tab w) :
    Calls Tryz.prog 39 #[v] w fun e w'=>e = .returned (.tuple #[.agg (encR (X7p t)),.int .i64 t.err]) /\ Ext w w':=by
 obtain ⟨a,b,c,rfl,h3⟩:=ht;obtain ⟨A,capa,rfl,hl1,hcap1,_⟩:=h3.basics.opened;obtain ⟨B,capb,rfl,hl2,hcap2,_⟩:=h3.causes.opened;obtain ⟨G,capg,rfl,hl3,hcap3,_⟩:=h3.gates.opened;have HT0:=Lib.hid h3;clear h3;have HTAB:=Lib.hid hT;clear hT;go_enter Tryz.func39,Tryz.ntmps39;go_wp2_with fail;change Calls _ _ _ ((w.alloc (.cells #[.slice A t.basics.length capa,.slice B t.causes.length capb,.slice G t.gates.length capg] 33)).alloc (.cells #[.int .i64 0,.int .i64 0] 52)) _;obtain ⟨W,hWW,k0,k1,HXW,eW⟩:=Q5l w 33 #[.slice A t.basics.length capa,.slice B t.causes.length capb,.slice G t.gates.length capg] 52 #[.int .i64 0,.int .i64 0];rw [hWW];clear hWW;have HT:=Lib.hid (HT0.out.ext HXW.out);refine (Q1y _ _ t ⟨_,_,_,rfl,HT.out⟩).mono ?_;rintro e w1 ⟨rfl,hx1⟩;have kt:=k0.ext hx1;have c0:=kt.cell 0;have c1:=kt.cell 1;have c2:=kt.cell 2;simp only [Go.Tw.gA,Go.Tw.gB,Go.Tw.gC] at c0 c1 c2;have HXX:=Lib.hid (HXW.out.trans hx1);have HX1:=Lib.hid hx1;clear kt hx1;have hbr:=k1.ext HX1.out;clear k0 k1
 by_cases he:t.err = 0
 . have HR:Hid (X7p t = lowest (Y9u t) (Q7g 16 t.size)):=Lib.hid (by unfold X7p; rw [if_pos he])
   have hV:=Valid.of he;have HV:=Lib.hid hV;have HE0:=Lib.hid he;have hsz:=hV.size;have hne:(t.err != 0) = false:=by simp [he]
   clear he hV;go_wp2_with fail;refine (Q3i _ _ t HV.out ⟨_,_,_,rfl,HT.out.ext HX1.out⟩).mono ?_;rintro e w2 ⟨fv,gv,rfl,hn,hx2⟩;obtain ⟨A1,cap1,rfl,_,_,_⟩:=hn.fails.opened;obtain ⟨A2,cap2,rfl,_,_,_⟩:=hn.gates.opened;rw [Q2g] at hn ⊢;have HN:=Lib.hid hn;have HX2:=Lib.hid hx2;clear hn hx2 c0 c1 c2;replace hbr:=hbr.ext HX2.out;have hbl:=hbr.lt;go_wp2_with (first | (refine Q0i rfl _ 129 rfl Tryz.Q1s Tryz.Q0r rfl hb9 rfl ?_) | (refine Q0c rfl _ _ 129 rfl Tryz.Q0r rfl rfl (Blk.made _ _ _) rfl rfl ?_ ?_; (focus (intro u hu; simp [outA] at hu; rcases hu with rfl | rfl | rfl | rfl | rfl | rfl | rfl | rfl | rfl | rfl | rfl | rfl | rfl | rfl | rfl | rfl <;> rfl)); intro w9 hb9 hl9 ho9) | fail)
   have hx9:Ext w2 w9:=Below.trans (Ext.box w2 _) (hl9 _ (Nat.le_refl _));have HXX9:Hid (Ext w w9):=by exact (HXX.out.trans HX2.out).trans hx9
   have HN9:=Lib.hid (HN.out.ext hx9);replace hbr:=hbr.ext hx9;refine (Q9c _ _ _ t t.Q0b 73 (noV t t.Q0b (.slice A1 t.size cap1) (.slice A2 t.gates.length cap2)) (fun s=>t.fails (evN s)) HV.out HN9.out (HTAB.out.ext HXX9.out) (enters_of Tryz.func73 (by kernel_rfl) rfl) (fun W s hx hs=>Q7t W _ _ t t.Q0b s HV.out hs (HN9.out.ext hx))).mono ?_
   rintro e w3 ⟨x,ll,rfl,hii,hp,hso,hx3⟩;have hll:=X6b (p:=false) hsz (fun s hs=>Y8o hsz hs) hp hso;have hlen:ll.length <= 4096:=by
    have h1:=hp.length_eq;have h2:=X9e (fun s=>t.fails (evN s)) t.size (List.finRange (2 ^ t.size));have h3:(2:Nat) ^ t.size <= 2 ^ 12:=Nat.pow_le_pow_right (by omega) hsz
    rw [List.length_finRange] at h2;omega
   have HB3:Hid (Blk w3 w2.heap.size 129 (outA t.size (.slice A1 t.size cap1) t.Q0b t.basics.length (.slice A2 t.gates.length cap2))):=by exact hb9.ext hx3
   have HXX3:=Lib.hid (HXX9.out.trans hx3);have HBR:=Lib.hid (hbr.ext hx3);have HLL:Hid (ll = t.sets false):=Lib.hid hll;have HSM:=Lib.hid HV.out.small;have HCL:=Lib.hid (Q4v t);obtain ⟨Am,capm,rfl,_,_,hcc⟩:=hii.opened;have HCC:=Lib.hid hcc;have s0:=HB3.out.cell 0;simp only [outA,Go.Tw.gA,Go.Tw.gB] at s0;clear hp hso hii hl9 ho9 hb9 hx9 hbr hll hcc;go_wp2
   go_loop [6,24] (fun o i=>∃ (k:Nat),k <= ll.length /\ i = .int .i64 k /\ o = .int .i64 (Y1c t.Q0b t.size (ll.take k))) (fun _ i=>ll.length - (intOf i).toNat)
   case atStart=>exact ⟨0,Nat.zero_le _,rfl,rfl⟩
   case round =>
    obtain ⟨k,hk,rfl,rfl⟩:=hrel
    by_cases hlt:k < ll.length
    . obtain ⟨b,off,mv,rfl,hbw,hcell,hm⟩:=HCC.out k hlt
      have HTK:Hid (Y1c t.Q0b t.size (ll.take (k + 1)) = Y1c t.Q0b t.size (ll.take k) + Q4e t.Q0b (ll.getD k []) t.size):=Lib.hid (by rw [List.take_succ_eq_append_getElem hlt,Y0s]; simp [hlt])
      have hb0:=Y4o HSM.out (n:=t.size) (by rw [HCL.out]; exact Nat.le_refl _) (ll.take k)
      rw [List.length_take,Nat.min_eq_left hk] at hb0;obtain ⟨s,hs⟩:∃ s,ll.getD k [] = s:=⟨_,rfl⟩;rw [hs] at HTK hm;obtain ⟨S,hS⟩:∃ S,Y1c t.Q0b t.size (ll.take k) = S:=⟨_,rfl⟩;rw [hS] at HTK hb0 ⊢;have hbt:=X4h HSM.out s (m:=t.size) (by rw [HCL.out]; exact Nat.le_refl _)
      obtain ⟨Aq,capq,rfl,_,_,_⟩:=hm.opened;have HM:=Lib.hid hm;clear hs hS hm;go_wp2
      go_loop [9,31] (fun o i=>∃ (m:Nat),m <= t.size /\ i = .int .i64 m /\ o = .int .i64 (Q4e t.Q0b s m)) (fun _ i=>t.size - (intOf i).toNat)
      case atStart=>exact ⟨0,Nat.zero_le _,rfl,rfl⟩
      case round =>
       obtain ⟨m,hm,rfl,rfl⟩:=hrel
       by_cases hmt:m < t.size
       . have n0:=HB3.out.cell (2 + m)
         rw [X9n _ _ _ _ _ (by omega)] at n0
         have hp:=X4h HSM.out s (m:=m) (by rw [HCL.out]; exact hm)
         have hp1:=X4h HSM.out s (m:=m + 1) (by rw [HCL.out]; omega)
         have hix:=HSM.out.ix (j:=m) (by rw [HCL.out]; exact hmt)
         have HST:Hid (Q4e t.Q0b s (m + 1) = Q4e t.Q0b s m * if has s m then ix t.Q0b m else 16):=by exact (rfl:Q4e t.Q0b s (m + 1) = _)
         obtain ⟨p,hpe⟩:∃ p,Q4e t.Q0b s m = p:=⟨_,rfl⟩;obtain ⟨y,hye⟩:∃ y,ix t.Q0b m = y:=⟨_,rfl⟩;rw [hpe,hye] at HST;rw [hye] at n0 hix;rw [HST.out] at hp1;rw [hpe] at hp ⊢;have hm12:m < 12:=by omega
         have hmI:(m:Int) < 12:=by omega
         have HCT:=Lib.hid (X1t w3 _ s m HM.out);clear hpe hye;cases hb:has s m with
         | true =>
           rw [hb] at HST hp1 HCT;simp only [if_true] at HST hp1;have HP1:=Lib.hid hp1;have hw:IntKind.i64.wrap (p * y) = p * y:=Q3v _ HP1.out.1 (by have:=HP1.out.2; omega)
           clear hp1 hb;go_wp2_with (go_at_call 78; refine HCT.out.mono ?_; rintro e w' ⟨rfl,rfl⟩);go_round
           case rel=>exact ⟨m + 1,by omega,by go_num,by rw [HST.out]⟩
           case measure=>simp [intOf]; omega
         | false =>
           rw [hb] at HST hp1 HCT;simp only [Bool.false_eq_true,if_false] at HST hp1;have HP1:=Lib.hid hp1;have hw:IntKind.i64.wrap (p * 16) = p * 16:=Q3v _ HP1.out.1 (by have:=HP1.out.2; omega)
           clear hp1 hb;go_wp2_with (go_at_call 78; refine HCT.out.mono ?_; rintro e w' ⟨rfl,rfl⟩);go_round
           case rel=>exact ⟨m + 1,by omega,by go_num,by rw [HST.out]⟩
           case measure=>simp [intOf]; omega
       . have e:m = t.size:=by omega
         subst e;have hw:IntKind.i64.wrap (S + Q4e t.Q0b s t.size) = S + Q4e t.Q0b s t.size:=Q3v _ (by omega) (by omega)
         go_wp2;go_round
         case rel=>exact ⟨k + 1,by omega,by go_num,by rw [HTK.out]⟩
         case measure=>simp [intOf]; omega
    . have HS:Hid (Y1c t.Q0b t.size (ll.take k) = Y9u t):=Lib.hid (by rw [List.take_of_length_le (by omega),HLL.out]; rfl)
      have hb0:=Y4o HSM.out (n:=t.size) (by rw [HCL.out]; exact Nat.le_refl _) (ll.take k)
      rw [List.length_take,Nat.min_eq_left hk] at hb0;have hpb:=X4n hsz;obtain ⟨d,hd⟩:∃ d,Q7g 16 t.size = d:=⟨_,rfl⟩;obtain ⟨S,hS⟩:∃ S,Y1c t.Q0b t.size (ll.take k) = S:=⟨_,rfl⟩;rw [hS] at HS hb0 ⊢;rw [hd] at HR hpb;have HP:Hid (∀ w',Calls Tryz.prog 93 #[noV t t.Q0b (.slice A1 t.size cap1) (.slice A2 t.gates.length cap2)] w' fun e w''=>e = .returned (.int .i64 d) /\ Ext w' w''):=by
       exact (by intro w'; rw [<- hd]; exact X1i w' t t.Q0b A1 A2 _ _ _ _ hsz:∀ w',Calls Tryz.prog 93 #[noV t t.Q0b (.slice A1 t.size cap1) (.slice A2 t.gates.length cap2)] w' fun e w''=>e = .returned (.int .i64 d) /\ Ext w' w'')
      have hS2:S <= 4611686018427387904:=by omega
      have hS1:=hb0.1;clear hd hS hb0;go_wp2_with (first | (refine Q0i rfl _ _ rfl Tryz.Q1s Tryz.Q0r rfl HB3.out rfl ?_) | (go_at_call 93; refine (HP.out _).mono ?_; rintro e w4 ⟨rfl,hx4⟩) | (go_at_call 91; refine (Q7w _ S d hS1 hS2 (by omega) (by omega)).mono ?_; rintro e w5 ⟨rfl,hx5⟩) | (refine Q0c rfl _ _ _ rfl Tryz.Q1q rfl rfl ((HBR.out.ext hx4).ext hx5) rfl rfl ?_ ?_; (focus (exact Q5z _ _)); intro w8 hb8 hl8 ho8))
      refine bodyPost_ret (Q0q Tryz.results39 rfl hb8 Tryz.Q5d Tryz.Q1q rfl) rfl ?_;exact ⟨by rw [HR.out,HE0.out,<- HS.out]; rfl,Below.trans ((HXX3.out.trans hx4).trans hx5) (hl8 _ (by omega))⟩
 . have HR:Hid (X7p t = ⟨0,0⟩):=Lib.hid (by unfold X7p; rw [if_neg he])
   have hne:(t.err != 0) = true:=by simp [he]
   clear he;go_wp2_with (refine Q0c rfl _ _ _ rfl Tryz.Q1q rfl rfl hbr rfl rfl ?_ ?_; (focus (exact Q7i ⟨0,0⟩)); intro w8 hb8 hl8 ho8);refine bodyPost_ret (Q0q Tryz.results39 rfl hb8 Tryz.Q5d Tryz.Q1q rfl) rfl ?_;exact ⟨by rw [HR.out]; rfl,Below.trans HXX.out (hl8 _ (by omega))⟩
end Go.Proofs
