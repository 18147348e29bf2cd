/- Lists of lists whose parts are the call's own. Contract of the reference: Histories. Contract of the reference: Coded. Contract of the reference: Flip. Contract of the law's own function: keelTides. The parts of a string between a byte; strings.Cut and strings.Split in these words. Plain law. Contracts: Kept, Closings, Delay, Weight (of the program). The error of a season and a member's number. Contract: Alone (of the program). What the law PolicyReads asks, plain: which closings come first, sets of tides as closings, the text of a coded policy, the regret as a sum over the members. What the law PolicyInformed asks, plain: levels and Q2y tide by tide, the sums over the members, a turned rule, Z5h members. No program in sight. The pond played tide by tide on lists: its volumes are a member's levels and Q2y. No program in sight. Contract of the law's own function: keelSeason (written by gen/keelsea.py). Contract: Follow (of the program). Contract of the law's own function: keelCourse. -/
import Derived.Test.YtodinjclfmiohaaGreatKp03
import Derived.Test.YtodinjclfmiohaaGreatKp02
import Derived.Test.YtodinjclfmiohaaGreatKp05
import Derived.Test.YtodinjclfmiohaaGreatKp04
import Derived.Lib.Split
import Derived.Lib.SplitLaws
import Derived.Lib.CutLaws
import Derived.Lib.IndexMore
import Derived.OwnWalk
set_option maxRecDepth 1000000
set_option maxHeartbeats 64000000
set_option linter.unusedVariables false
set_option linter.unusedSimpArgs false
set_option linter.constructorNameAsVariable false
namespace Go.Proofs
open Go.RowKit Go.Tw Go.Flow
theorem Tryz.Z1z:(Tryz.prog.info? 44).map (fun i=>(i.zero,i.size,i.bytes)) = some (some (.slice none 0 0),1,24):=by kernel_rfl
def RL (w:World) (vs:List Value) (ll:List (List Int)):Prop:=vs.length = ll.length /\ ∀ j,j < ll.length -> Q0g w 0 3 (.int .i64) (vs.getD j undef) (ll.getD j [])
def LL (w:World) (B:Nat) (v:Value) (ll:List (List Int)):Prop:=∃ vs,Q0g w B 44 idV v vs /\ RL w vs ll
theorem RL.ext {w w':World} {vs:List Value} {ll:List (List Int)} (h:RL w vs ll) (hx:Ext w w'):RL w' vs ll:=⟨h.1,fun j hj=>(h.2 j hj).below hx⟩
theorem LL.ext {w w':World} {B:Nat} {v:Value} {ll:List (List Int)} (h:LL w B v ll) (hx:Ext w w'):LL w' B v ll:=let ⟨vs,h1,h2⟩:=h; ⟨vs,h1.below hx,h2.ext hx⟩
theorem LL.weaken {w:World} {B B':Nat} {v:Value} {ll:List (List Int)} (h:LL w B v ll) (hb:B' <= B):LL w B' v ll:=let ⟨vs,h1,h2⟩:=h; ⟨vs,h1.weaken hb,h2⟩
theorem LL.nil (w:World) (B:Nat):LL w B (.slice none 0 0) []:=⟨[],Q0g.nil _ _ _ _,rfl,fun j hj=>by simp at hj⟩
theorem Z0n {w:World} {v:Value} {l:List Int} (h:Q0g w 0 3 (.int .i64) v l):(idV v).oneCell' = true:=by
 obtain ⟨b,c,rfl,_⟩:=h.shape;rfl
theorem RL.one {w:World} {vs:List Value} {ll:List (List Int)} (h:RL w vs ll):∀ y ∈ vs,(idV y).oneCell' = true:=by
 intro y hy;obtain ⟨i,hi,rfl⟩:=List.getElem_of_mem hy;have h2:=h.2 i (by rw [<- h.1]; exact hi)
 rw [Q0r _ hi] at h2;exact Z0n h2
theorem RL.insert {w:World} {vs:List Value} {ll:List (List Int)} {v:Value} {l:List Int} {n:Nat} (h:RL w vs ll) (hv:Q0g w 0 3 (.int .i64) v l) (hn:n <= ll.length):RL w (vs.take n ++ [v] ++ vs.drop n) (ll.take n ++ [l] ++ ll.drop n):=by
 obtain ⟨h1,h2⟩:=h;refine ⟨by simp [h1],fun i hi=>?_⟩
 have hlen:(ll.take n ++ [l] ++ ll.drop n).length = ll.length + 1:=by simp; omega
 rw [hlen] at hi;rw [X5a v undef n vs i (by omega),X5a l [] n ll i hn]
 by_cases h3:i < n
 . rw [if_pos h3,if_pos h3]; exact h2 i (by omega)
 . rw [if_neg h3,if_neg h3]
   by_cases h4:i = n
   . rw [if_pos h4,if_pos h4]; exact hv
   . rw [if_neg h4,if_neg h4]; exact h2 (i - 1) (by omega)
theorem Y4k {α:Type} (a b:List α) (d:α) (j:Nat):(a ++ b).getD j d = if j < a.length then a.getD j d else b.getD (j - a.length) d:=by
 by_cases h:j < a.length
 . rw [if_pos h]; simp [List.getElem?_append_left h]
 . rw [if_neg h]; simp [List.getElem?_append_right (show a.length <= j by omega)]
theorem RL.app {w:World} {vs us:List Value} {ll mm:List (List Int)} (h:RL w vs ll) (k:RL w us mm):RL w (vs ++ us) (ll ++ mm):=by
 refine ⟨by simp [h.1,k.1],fun j hj=>?_⟩
 rw [Y4k,Y4k,h.1];rw [List.length_append] at hj
 by_cases h3:j < ll.length
 . rw [if_pos h3,if_pos h3]; exact h.2 j h3
 . rw [if_neg h3,if_neg h3]; exact k.2 _ (by omega)
theorem RL.grown {w w':World} {vs:List Value} {ll:List (List Int)} {base n size:Nat} {cv:Value} {xs:List Value} {e:TypeId} (h:RL w vs ll) (hown:w.ownsRow base e size cv n xs) (he:e ≠ 3) (hg:w.grownBy w' cv.ownBlock):RL w' vs ll :=
 ⟨h.1,fun j hj=>Q2k (h.2 j hj) hown he hg⟩
theorem RL.reads {w:World} {vs:List Value} {ll:List (List Int)} (h:RL w vs ll) (hs:∀ j,j < ll.length -> (ll.getD j []).length <= 1000):Reads w vs ll:=⟨h.1,fun j hj=>(h.2 j hj).ints (by have:=hs j hj; omega)⟩
theorem LL.read {w:World} {B:Nat} {v:Value} {ll:List (List Int)} (h:LL w B v ll) (hl:ll.length <= 2000) (hs:∀ j,j < ll.length -> (ll.getD j []).length <= 1000):Q3j w v ll :=
 let ⟨_,h1,h2⟩:=h; h1.Z5d (h2.reads hs) (by omega)
theorem X3o {K:Value -> World -> Prop} {o:Oper} {a:Act} {w:World} (s x:Operand) (ho:o.op = .call { callee:=.builtin .append,args:=#[s,x],argTypes:=#[84,84] })
    {B:Nat} {v u:Value} {L M:List (List Int)} (hs:a.eval s = v) (h1:LL w B v L) (hx:a.eval x = u) (h2:LL w B u M) (hL:L.length <= 2000) (hM:M.length <= 2000) (hB:B <= w.heap.size)
    (hK:∀ v' w',LL w' B v' (L ++ M) -> Below B w w' -> K v' w'):gives Tryz.prog K ((execOp a.eval o).run Tryz.prog w):=by
 obtain ⟨i0,hi,hz0,hz1,hz2⟩:=info_parts Tryz.Z1z;obtain ⟨vs,o1,m1⟩:=h1;obtain ⟨us,o2,m2⟩:=h2;have l1:=m1.1;have l2:=m2.1;exact Q1k s x 84 ho B 44 i0 (.slice none 0 0) 24 Tryz.underlying84 hi hz0 hz1 hz2 rfl idV v u vs us hs o1 hx (Z1j o2) m2.one (by omega) (by decide) hB fun v' w' hown hg=>hK _ _ ⟨vs ++ us,hown,(m1.grown o1 (by decide) hg).app (m2.grown o1 (by decide) hg)⟩ (below_grown o1 hg (Nat.le_refl _) hB)
theorem Y5f {w:World} {b o n c:Nat} {l:List Int} (h:Q0b w (.slice (some ⟨b,o,none⟩) n c) l) (hn:l.length = n):∀ j u,(l.map (Value.int .i64))[j]? = some u -> w.cell? ((⟨b,o,none⟩:Addr).add j) = some u:=by
 subst hn;obtain ⟨A,cap,hv,hl,hcap,hc⟩:=h.opened;cases hv;intro j u hj;rw [List.getElem?_map] at hj;obtain ⟨y,hy,rfl⟩:=Option.map_eq_some_iff.1 hj;obtain ⟨hjl,rfl⟩:=List.getElem?_eq_some_iff.1 hy;obtain ⟨b',off',he,hcell⟩:=hc j hjl;cases he;rw [addr_add,hcell,Q6r hjl]
theorem Y1k {h:List Int} {row:List (List Int)} {n:Nat} (hn:n = Q1l h row row.length) (h0:n = 0 ∨ row.getD (n - 1) [] ≠ h):Q6m h row = row.take n ++ [h] ++ row.drop n:=by
 unfold Q6m;simp only [<- hn];rw [if_neg];rintro ⟨h1,h2⟩
 rcases h0 with h0 | h0
 . omega
 . exact h0 h2
theorem Z0s {h:List Int} {row:List (List Int)} {n:Nat} (hn:n = Q1l h row row.length) (h0:0 < n) (he:row.getD (n - 1) [] = h):Q6m h row = row:=by
 unfold Q6m;simp only [<- hn];rw [if_pos ⟨h0,he⟩]
theorem Y5x {s:Q0c} {t i:Nat} (hi:i <= s.members.length) (h:∀ k,k < s.members.length -> t + 1 <= (Q0f s.members k).length):∀ j,j < (s.Q4s t i).length -> ((s.Q4s t i).getD j []).length = t + 1:=by
 intro j hj;rw [Q0r _ hj];obtain ⟨k,hk,he⟩:=(Q0c.Q9g t _ i).1 (List.getElem_mem hj);rw [he,List.length_take];have:=h k (by omega)
 omega
theorem Y9r {s:Q0c} (hS:Q1d s):0 < s.hist.length:=by
 refine List.length_pos_of_mem (a:=(Q0f s.members 0).take (0 + 1)) ?_;exact (Q0c.Q4o _ _).2 ⟨0,hS.tides.1,0,hS.some.1,rfl⟩
def RuR (w:World) (qs:List (Value × Rul)):Prop:=∀ q ∈ qs,Q0g w 0 3 (.int .i64) q.1 q.2.classes
theorem RuR.ext {w w':World} {qs:List (Value × Rul)} (h:RuR w qs) (hx:Ext w w'):RuR w' qs:=fun q hq=>(h q hq).below hx
theorem RuR.set {w:World} {qs:List (Value × Rul)} {O k:Nat} {u:Value} {S:TypeId} {cs:Array Value} (h:RuR w qs) (hb:Blk w O S cs) (hT:S ≠ 3):RuR (w.setCell ⟨O,k,none⟩ u) qs:=fun q hq=>Q3e (h q hq) hb hT
theorem RuR.grown {w w':World} {qs:List (Value × Rul)} {base n size:Nat} {e:TypeId} {cv:Value} {xs:List Value} (h:RuR w qs) (hown:w.ownsRow base e size cv n xs) (he:e ≠ 3) (hg:w.grownBy w' cv.ownBlock):RuR w' qs:=fun q hq=>Q2k (h q hq) hown he hg
theorem RuR.snoc {w:World} {qs:List (Value × Rul)} {q:Value × Rul} (h:RuR w qs) (hq:Q0g w 0 3 (.int .i64) q.1 q.2.classes):RuR w (qs ++ [q]):=fun x hx=>by
 rcases List.mem_append.1 hx with hx | hx
 . exact h x hx
 . rw [List.mem_singleton.1 hx]; exact hq
theorem Y4q {w:World} {q:Value × Rul} (h:Q0g w 0 3 (.int .i64) q.1 q.2.classes):∀ u ∈ Q4g q,u.oneCell' = true:=by
 obtain ⟨b,c,e,_⟩:=h.shape;intro u hu;simp only [Q4g,List.mem_cons,List.not_mem_nil,or_false] at hu
 rcases hu with rfl | rfl
 . rw [e]; rfl
 . rfl
theorem X5z {w:World} {B:Nat} {T:TypeId} {v:Value} {qs:List (Value × Rul)} (h:Q1r w B T 2 Q4g v qs) (hl:qs.length <= 100000) (hr:RuR w qs) (hs:∀ q ∈ qs,q.2.classes.length <= 4096):Q1n w v (qs.map (·.2)) :=
 X6u h hl (fun q hq=>(hr q hq).ints (by have:=hs q hq; omega)) (Ext.refl _)
theorem Y2k {α:Type} {w:World} {base base' k:Nat} {e:TypeId} {enc:α -> List Value} {v:Value} {l:List α} (h:Q1r w base e k enc v l) (hb:base' <= base):Q1r w base' e k enc v l:=by
 obtain ⟨h1,h2⟩:=h;refine ⟨h1,?_⟩
 rcases h2 with h2 | ⟨g,cap,cur,hv,hbg,r⟩
 . exact .inl h2
 . exact .inr ⟨g,cap,cur,hv,Nat.le_trans hb hbg,r⟩
def Z1t (T:TypeId) (w w':World) (x:Value) (p:List Rul):Prop:=∃ vo qs,x = .agg #[vo] /\ Q1r w' w.heap.size T 2 Q4g vo qs /\ qs.map (·.2) = p /\ RuR w' qs
theorem Z1t.is {T:TypeId} {w w':World} {x:Value} {p:List Rul} (h:Z1t T w w' x p) (hl:p.length <= 4096) (hs:∀ r ∈ p,r.classes.length <= 4096):Q1q w' x p:=by
 obtain ⟨vo,qs,rfl,ho,rfl,hr⟩:=h;exact ⟨vo,rfl,X5z ho (by rw [List.length_map] at hl; omega) hr fun q hq=>hs _ (List.mem_map_of_mem hq)⟩
theorem Tryz.Y8x:(Tryz.prog.info? 67).map (fun i=>(i.zero,i.size,i.bytes)) = some (some (.agg #[.slice none 0 0,.bool false]),2,32):=by kernel_rfl
theorem X9x (w:World) (a:Option Addr) (n c:Nat) (b:Bool):(Instr.build 66 #[(0,.slice a n c),(1,.bool b)]).run Tryz.prog w = .ok (.agg #[.slice a n c,.bool b]) w:=by kernel_rfl
theorem X9e (w:World) (a:Option Addr) (n c:Nat) (b:Bool):(Instr.build 67 #[(0,.slice a n c),(1,.bool b)]).run Tryz.prog w = .ok (.agg #[.slice a n c,.bool b]) w:=by kernel_rfl
theorem Y7l (w:World) (a:Option Addr) (n c:Nat) (b:Bool):(Instr.buildSlice 58 1 #[(0,.agg #[.slice a n c,.bool b])]).run Tryz.prog w = .ok (.slice (some ⟨w.heap.size,0,none⟩) 1 1) (w.alloc (.cells #[.slice a n c,.bool b] 66)):=by kernel_rfl
theorem Y8p (w:World) (a:Option Addr) (n c:Nat) (b:Bool):(Instr.buildSlice 62 1 #[(0,.agg #[.slice a n c,.bool b])]).run Tryz.prog w = .ok (.slice (some ⟨w.heap.size,0,none⟩) 1 1) (w.alloc (.cells #[.slice a n c,.bool b] 67)):=by kernel_rfl
theorem Tryz.Z3r (w:World):(sizeOf 58).run Tryz.prog w = .ok 1 w:=by kernel_rfl
theorem Tryz.Z3o (w:World):(sizeOf 62).run Tryz.prog w = .ok 1 w:=by kernel_rfl
end Go.Proofs
namespace Go.Proofs
open Go.RowKit Go.Tw Go.Flow
attribute [local go_sem] Oper.semAt_some
theorem X5y (w:World) (v:Value) (s:Q0c) (hv:Q0o w v s) (he:s.err = 0) :
    Calls Tryz.prog 42 #[v] w fun e w'=>∃ x,e = .returned x /\ LL w' w.heap.size x s.hist /\ Ext w w':=by
 obtain ⟨i0,hi,hz0,hz1,hz2⟩:=info_parts Tryz.Z1z;obtain ⟨n0,ni,nz0,nz1,nz2⟩:=info_parts Tryz.info3;have hS:=Q1d.of he;have hfix:Hid (∀ i,i < s.members.length -> (Q0f s.members i).length = s.ships.length):=fun i h=>(hS.shaped i h).1;have hT6:=hS.tides.2;have hn8:=hS.some.2;obtain ⟨a,b,rfl,h2⟩:=hv;obtain ⟨A0,capa,rfl,-,-,-⟩:=h2.ships.opened;obtain ⟨B,capb,rfl,-,-,hc⟩:=h2.members.opened;have HC:=Lib.hid hc;obtain ⟨n,hn⟩:∃ n,s.members.length = n:=⟨_,rfl⟩;obtain ⟨T,hT⟩:∃ n,s.ships.length = n:=⟨_,rfl⟩;have HN:=Lib.hid hn;have HT:=Lib.hid hT;rw [hn] at HC hn8 hfix;rw [hT] at hT6 hfix;rw [hn,hT];clear h2 hc hS he hn hT;go_enter Tryz.func42,Tryz.ntmps42;go_wp2_with fail;change Code.wp _ _ _ _ (w.alloc (.cells #[.int .i64 s.limit,.slice A0 T capa,.slice B n capb] 55));obtain ⟨W,hWW,k0,HXW,eW⟩:=Q2q w 55 #[.int .i64 s.limit,.slice A0 T capa,.slice B n capb];rw [hWW];clear hWW;obtain ⟨gs,hgs⟩:∃ x,w.heap.size = x:=⟨_,rfl⟩;rw [hgs] at k0 eW ⊢;have K0:=Lib.hid k0;have HW:=HXW;have hgW:gs < W.heap.size:=k0.lt;clear k0 hgs
 go_loopw [3,4] (fun o t wr=>∃ (k:Nat),k <= T /\ t = .int .i64 k /\ LL wr W.heap.size o (s.Q4v k) /\ Ext W wr) (fun _ t _=>T - (intOf t).toNat)
 case atStart=>exact ⟨0,Nat.zero_le _,rfl,LL.nil _ _,Ext.refl _⟩
 case round =>
  obtain ⟨k,hk,rfl,hout,hxk⟩:=hrel;obtain ⟨w1,rfl⟩:∃ x,x = wr:=⟨_,rfl⟩;have c0:=(K0.out.ext hxk).cell 0;have c1:=(K0.out.ext hxk).cell 1;have c2:=(K0.out.ext hxk).cell 2;simp only [Go.Tw.gA,Go.Tw.gB,Go.Tw.gC] at c0 c1 c2;have HXK:=Lib.hid hxk;have HO:=Lib.hid hout;clear hxk hout
  by_cases hlt:k < T
  . have hkI:(k:Int) < T:=by omega
    go_light
    go_wp2_with fail
    go_loopw [5,6] (fun r i wr=>∃ (m:Nat),m <= n /\ i = .int .i64 m /\ LL wr W.heap.size r (s.Q4s k m) /\ Ext w1 wr) (fun _ i _=>n - (intOf i).toNat)
    case atStart=>exact ⟨0,Nat.zero_le _,rfl,LL.nil _ _,Ext.refl _⟩
    case round =>
     obtain ⟨m,hm,rfl,hrow,hx2⟩:=hrel;obtain ⟨w2,rfl⟩:∃ x,x = wr:=⟨_,rfl⟩;have hxW2:=HXK.out.trans hx2;have d0:=(K0.out.ext hxW2).cell 0;have d1:=(K0.out.ext hxW2).cell 1;have d2:=(K0.out.ext hxW2).cell 2;simp only [Go.Tw.gA,Go.Tw.gB,Go.Tw.gC] at d0 d1 d2;have HX2:=Lib.hid hx2;have HXW2:=Lib.hid hxW2;have HR:=Lib.hid hrow;clear hx2 hrow
     by_cases hml:m < n
     . have hmI:(m:Int) < n:=by omega
       obtain ⟨bm,off,x0,y0,z0,hBe,hbm,-,-,e2,-,-,hix,-,-,-⟩:=HC.out m hml;subst hBe;obtain ⟨C,capc,rfl,-,hcapc,hcC⟩:=hix.opened;have hfl:=hfix.out m hml;obtain ⟨lc,hlc⟩:∃ x,Q0f s.members m = x:=⟨_,rfl⟩;rw [hlc] at hfl hcapc hcC e2 hix;rw [hfl] at e2 hcapc;obtain ⟨bc,oc,hCe,_⟩:=hcC 0 (by omega)
       subst hCe;have hkc:k + 1 <= capc:=by omega
       have hkc1:¬ ((0:Int) <= (k:Int) + 1 -> (capc:Int) < (k:Int) + 1):=by omega
       have hkc2:¬ capc = 0:=by omega
       have hkc4:¬ (k:Int) + 1 < 0:=by omega
       have hkc3:((k:Int) + 1).toNat = k + 1:=by omega
       have hkc5:(k:Int) + 1 <= (capc:Int):=by omega
       have hwk:IntKind.i64.wrap ((k:Int) + 1) = (k:Int) + 1:=X6m _ (by omega) (by omega)
       have hxb:=Ext.box w2 (.cells #[] 3);have hown:Q0g (w2.alloc (.cells #[] 3)) w2.heap.size 3 (Value.int .i64) (.slice (some ⟨w2.heap.size,0,none⟩) 0 0) []:=World.ownsRow_made w2 #[] 0 (Nat.le_refl _) (by unfold maxLen; omega) rfl
       have e2':=hxb.cell (HXW2.out.cell (HW.out.cell e2));have d2':=hxb.cell d2;have lt1:(lc.take (k + 1)).length = k + 1:=by rw [List.length_take]; omega
       have hixw:=(X4s (by rw [hfl] at hix; exact hix) (show k + 1 <= lc.length by omega)).ext ((HW.out.trans HXW2.out).trans hxb)
       have HSRC:Hid (∀ j u,((lc.take (k + 1)).map (Value.int .i64))[j]? = some u -> (w2.alloc (.cells #[] 3)).cell? ((⟨bc,oc,none⟩:Addr).add j) = some u):=Y5f hixw lt1;have HONE1:Hid (∀ u ∈ (lc.take (k + 1)).map (Value.int .i64),u.oneCell' = true):=by
        exact (by intro u hu; obtain ⟨y,_,rfl⟩:=List.mem_map.1 hu; rfl:∀ u ∈ (lc.take (k + 1)).map (Value.int .i64),u.oneCell' = true)
       have HL2:Hid (((lc.take (k + 1)).map (Value.int .i64)).length = (k + 1) * 1):=Lib.hid (by rw [List.length_map,lt1]; omega)
       have hdc:(w2.alloc (.cells #[] 3)).cell? ⟨bm,off + m * 5 + 2,none⟩ = some (.slice (some ⟨bc,oc,none⟩) T capc):=e2';have HLC:=Lib.hid lt1;have HHC:=Lib.hid hlc;clear hcC hix hixw e2 e2' lt1 hlc hxb
       go_light
       go_wp2_with (at_builtin; refine wpList_append_own _ rfl _ _ 44 rfl (w2.heap.size) 3 n0 (.int .i64 0) 1 8 Tryz.underlying44 ni nz0 nz1 nz2 rfl (by decide) _ _ _ rfl hown ⟨bc,oc,none⟩ (k + 1) capc ((lc.take (k + 1)).map (Value.int .i64)) rfl HL2.out HSRC.out HONE1.out ?_ ?_ ?_ ?_; (focus (unfold maxLen; simp; omega)); (focus (simp; omega)); (focus (simp)); intro v' w4 hown' hgrow _; refine halted ?_)
       have hx4:Ext w2 w4:=Below.trans (Ext.box w2 (.cells #[] 3)) (below_grown hown hgrow (Nat.le_refl _) (Ext.box w2 (.cells #[] 3)).size);have hownh:Q0g w4 0 3 (.int .i64) v' (lc.take (k + 1)):=by
        refine Q0g.weaken ?_ (Nat.zero_le w2.heap.size);simp only [List.length_nil,Nat.zero_add,List.map_nil,List.nil_append] at hown';unfold Q0g;rw [HLC.out];exact hown'
       clear hown' hgrow hown hdc d2';unfold Q5f;obtain ⟨Ah,ch,rfl,hch⟩:=hownh.shape;rw [HLC.out] at hownh hch ⊢;have hst:s.Q4s k (m + 1) = Q6m (lc.take (k + 1)) (s.Q4s k m):=by rw [<- HHC.out]; rfl
       have hlens:∀ j,j < (s.Q4s k m).length -> ((s.Q4s k m).getD j []).length = k + 1:=Y5x (by rw [HN.out]; omega) (fun i h=>by rw [HN.out] at h; rw [hfix.out i h]; omega)
       have hrl:=Q8q s k m;obtain ⟨us,hou,hru⟩:=HR.out.ext hx4;have hul:us.length <= 8:=by rw [hru.1]; omega
       have HHH:=Lib.hid hownh;obtain ⟨hh,hhe⟩:∃ x,lc.take (k + 1) = x:=⟨_,rfl⟩;have hhl:hh.length = k + 1:=by rw [<- hhe]; exact HLC.out
       rw [hhe] at hst HHH;obtain ⟨rt,hrt⟩:∃ x,s.Q4s k m = x:=⟨_,rfl⟩;rw [hrt] at hst hlens hru hrl;have HST:=Lib.hid hst;have HLENS:=Lib.hid hlens;have HRL:=Lib.hid hru;have HHL:=Lib.hid hhl;have HONE:Hid (∀ y ∈ us,(idV y).oneCell' = true):=hru.one;have HLU:Hid (us.length = rt.length):=Lib.hid hru.1;have hxo:=HX2.out.trans hx4;have HXO:=Lib.hid hxo;have hB4:W.heap.size <= w4.heap.size:=Nat.le_trans HXW2.out.size hx4.size;have HX4:=Lib.hid hx4;clear hst hlens hru hhl hhe hrt hownh HLC HHC HSRC HONE1 HL2 hxo hx4 HR;have HOU:=Lib.hid hou
       rcases hou.cells2 with ⟨rfl,hve⟩ | ⟨g0,cc,rfl,hcc,hbg,hgl,hcl⟩
       . have HVE:=Lib.hid hve
         clear hve hou;go_wp2
         go_loopw [8] (fun a wr=>∃ (n1:Nat),n1 <= us.length /\ a = .int .i64 n1 /\ Q1l hh rt n1 = Q1l hh rt rt.length /\ Ext w4 wr) (fun a _=>(intOf a).toNat)
         case atStart=>exact ⟨us.length,Nat.le_refl _,by rw [HVE.out]; rfl,by rw [HRL.out.1],Ext.refl _⟩
         case round =>
          obtain ⟨n1,hnl,rfl,hpos,hxi⟩:=hrel;have HPOS:=Lib.hid hpos; clear hpos;have hz:n1 = 0:=by
           have:=HVE.out;rw [this] at hnl
           simpa using hnl
          have HZ:Hid (0 = Q1l hh rt rt.length):=by rw [<- HPOS.out,hz]; exact rfl
          subst hz;obtain ⟨wq,rfl⟩:∃ x,x = wr:=⟨_,rfl⟩;go_wp2;refine Flow.region [.w,.p,.p,.p,.w,.p,.w,.last,.p,.p,.p,.last,.last] [0,1,2,3,4,5,6,7,8,9,10,11,12] [[],[],[],[1,2],[0,1,2,3],[],[5],[0,1,2,3,4,5,6],[],[],[8,9],[0,1,2,3,4,5,6,7,8,9,10],[0,1,2,3,4,5,6,7,8,9,10,11]] [7,11,12]
           [⟨fun v wz=>Q0p wz (v 0) wq.heap.size 44,fun _ _ _ hx h=>h.ext hx⟩,.c 1 (.slice (none) 0 0),.c 2 (.int .i64 0),.c 3 (.slice none 0 0),⟨fun v wz=>(fun v w'=>Q0g w' wq.heap.size 44 idV (v 4) (us.take 0)) v wz,fun _ _ _ hx h=>Q0g.below h hx⟩,.c 5 ((Value.slice Ah (k + 1) ch)),⟨fun v wz=>Q2f wz (v 6) (Value.slice Ah (k + 1) ch),fun _ _ _ hx h=>h.ext hx⟩,.none,.c 8 (.slice (none) 0 0),.c 9 (.int .i64 0),.c 10 (.slice none 0 0),.none,.none]
           [fun v w1 w'=>Q0g w' wq.heap.size 44 idV (v 7) (us.take 0 ++ [(Value.slice Ah (k + 1) ch)]) /\ Below wq.heap.size w1 w',fun v w1 w'=>Q0g w' wq.heap.size 44 idV (v 11) (us.take 0 ++ [(Value.slice Ah (k + 1) ch)] ++ us.drop 0) /\ Below wq.heap.size w1 w',fun v w1 w'=>v 12 = v 11 /\ Q0g w' wq.heap.size 44 idV (v 11) (us.take 0 ++ [(Value.slice Ah (k + 1) ch)] ++ us.drop 0) /\ Below wq.heap.size w1 w'] (by kernel_rfl) rfl (by kernel_rfl) ⟨?g0,?g1,?g2,?g3,?g4,?g5,?g6,?g7,?g8,?g9,?g10,?g11,?g12,trivial⟩ ?post
          case g0=>
           intro v w1 hx;intro K hK;go_simp;exact hK _ _ (Ext.box _ _) (Q0p.made _ _ _ hx.size)
          case g1 | g2 | g5 | g8 | g9=>
           intro v w1 hx;refine ⟨_,fun w=>?_,rfl⟩;go_simp
          case g3 | g10=>
           intro v w1 hx;(repeat intro (zq:v _ = _));refine ⟨_,fun w=>?_,rfl⟩;go_simp
          case g4=>
           intro v w1 hx (q0:Q0p w1 (v 0) wq.heap.size 44) (q1:v 1 = _) (q2:v 2 = _) (q3:v 3 = _);intro K hK;have l1:(us.take 0).length = 0:=by rw [List.length_take]; omega
           refine Q1f _ _ 84 rfl wq.heap.size 44 i0 (.slice none 0 0) 24 Tryz.underlying84 hi hz0 hz1 hz2 rfl idV (v 0) (v 3) (us.take 0) (by go_simp) q0 (by go_simp) ?_ (fun y hy=>HONE.out y (List.mem_of_mem_take hy)) (by omega) (by decide) hx.size (fun v' w' hown hx2=>hK _ _ hx2 hown)
           rw [q3];exact ⟨none,0,by rw [l1],fun j hj=>by rw [l1] at hj; omega⟩
          case g6=>
           intro v w1 hx;(repeat intro (zq:v _ = _));intro K hK;go_simp;exact hK _ _ (Ext.box _ _) (Q2f.made _ _ _)
          case g7=>
           intro v w1 hx _ (q1:v 1 = _) (q2:v 2 = _) (q3:v 3 = _) (q4:(fun v w'=>Q0g w' wq.heap.size 44 idV (v 4) (us.take 0)) v w1) (q5:v 5 = _) (q6:Q2f w1 (v 6) (Value.slice Ah (k + 1) ch));intro wl hT;obtain rfl:wl = w1:=hT;intro bb hbb;subst hbb;intro K hK;refine Q1k _ _ 84 rfl wq.heap.size 44 i0 (.slice none 0 0) 24 Tryz.underlying84 hi hz0 hz1 hz2 rfl idV (v 4) (v 6) (us.take 0) [(Value.slice Ah (k + 1) ch)] (by go_simp) q4 (by go_simp) (Q2f.src q6) (fun y hy=>by rw [List.mem_singleton] at hy; rw [hy]; exact (show (idV (Value.slice Ah (k + 1) ch)).oneCell' = true from rfl)) (by rw [List.length_take,List.length_singleton]; omega) (by decide) hx.size (fun v' w' hown hg=>hK _ _ ⟨hown,below_grown q4 hg (Nat.le_refl _) hx.size⟩)
          case g11=>
           intro v w1 hx _ (q1:v 1 = _) (q2:v 2 = _) (q3:v 3 = _) _ (q5:v 5 = _) _ (q8:v 8 = _) (q9:v 9 = _) (q10:v 10 = _);intro wl hT;replace hT:(fun v w1 w'=>Q0g w' wq.heap.size 44 idV (v 7) (us.take 0 ++ [(Value.slice Ah (k + 1) ch)]) /\ Below wq.heap.size w1 w') v w1 wl:=hT;intro bb hbb;subst hbb;obtain ⟨hT1,hT2⟩:=hT;intro K hK;have hsz:wq.heap.size <= wl.heap.size:=Nat.le_trans hx.size hT2.size;have l2:(us.drop 0).length = us.length - 0:=List.length_drop;refine Q1k _ _ 84 rfl wq.heap.size 44 i0 (.slice none 0 0) 24 Tryz.underlying84 hi hz0 hz1 hz2 rfl idV (v 7) (v 10) (us.take 0 ++ [(Value.slice Ah (k + 1) ch)]) (us.drop 0) (by go_simp) hT1 (by go_simp) ?_ (fun y hy=>HONE.out y (List.mem_of_mem_drop hy)) (by rw [List.length_append,List.length_take,List.length_singleton]; omega) (by decide) hsz (fun v' w' hown hg=>hK _ _ ⟨hown,hT2.trans (below_grown hT1 hg (Nat.le_refl _) hsz)⟩)
           rw [q10];exact ⟨none,0,by rw [l2,HVE.out]; rfl,fun j hj=>by rw [l2,HVE.out] at hj; simp at hj⟩
          case g12=>
           intro v w1 hx _ (q1:v 1 = _) (q2:v 2 = _) (q3:v 3 = _) _ (q5:v 5 = _) _ (q8:v 8 = _) (q9:v 9 = _) (q10:v 10 = _);intro wl hT;replace hT:(fun v w1 w'=>Q0g w' wq.heap.size 44 idV (v 11) (us.take 0 ++ [(Value.slice Ah (k + 1) ch)] ++ us.drop 0) /\ Below wq.heap.size w1 w') v w1 wl:=hT;intro bb hbb;subst hbb;intro K hK;go_simp;exact hK _ _ ⟨rfl,hT⟩
          case post =>
           intro v w1 hx (q0:Q0p w1 (v 0) wq.heap.size 44);(iterate 3 intro (zq:v _ = _));intro (q4:(fun v w'=>Q0g w' wq.heap.size 44 idV (v 4) (us.take 0)) v w1);(iterate 1 intro (zq:v _ = _));intro (q6:Q2f w1 (v 6) (Value.slice Ah (k + 1) ch));(iterate 3 intro (zq:v _ = _));intro w2 hE;replace hE:(fun v w1 w'=>v 12 = v 11 /\ Q0g w' wq.heap.size 44 idV (v 11) (us.take 0 ++ [(Value.slice Ah (k + 1) ch)] ++ us.drop 0) /\ Below wq.heap.size w1 w') v w1 w2:=hE;simp only [Flow.acts,Act.put];go_simp;obtain ⟨_,e2,e3⟩:=hE;have hx9:=X4k hx e3;have hrl9:=RL.insert (HRL.out.ext (hxi.trans hx9)) (HHH.out.below (hxi.trans hx9)) (Nat.zero_le rt.length);have hown9:=e2.weaken (show W.heap.size <= wq.heap.size from Nat.le_trans hB4 hxi.size)
           have HST9:Hid (s.Q4s k (m + 1) = rt.take 0 ++ [hh] ++ rt.drop 0):=HST.out.trans (Y1k HZ.out (.inl rfl));have HR9:Hid (RL _ _ _):=hrl9;have hxz:=(HXO.out.trans hxi).trans hx9;clear hrl9 q0 q4 q6 hx e3 hx9;go_wp2
           all_goals
            go_roundw
            case rel=>exact ⟨m + 1,by omega,by go_num,⟨_,hown9,by rw [HST9.out]; exact HR9.out⟩,hxz⟩
            case measure=>simp [intOf]; omega
       . have HCL:=Lib.hid hcl
         clear hou hcl;go_wp2
         go_loopw [8] (fun a wr=>∃ (n1:Nat),n1 <= us.length /\ a = .int .i64 n1 /\ Q1l hh rt n1 = Q1l hh rt rt.length /\ Ext w4 wr) (fun a _=>(intOf a).toNat)
         case atStart=>exact ⟨us.length,Nat.le_refl _,rfl,by rw [HRL.out.1],Ext.refl _⟩
         case round =>
          obtain ⟨n1,hnl,rfl,hpos,hxi⟩:=hrel;have HPOS:=Lib.hid hpos; clear hpos;obtain ⟨wq0,rfl⟩:∃ x,x = wr:=⟨_,rfl⟩
          by_cases hz:n1 = 0
          . have HZ:Hid (n1 = Q1l hh rt rt.length):=by rw [<- HPOS.out,hz]; exact rfl
            have HZ0:Hid (n1 = 0 ∨ rt.getD (n1 - 1) [] ≠ hh):=.inl hz;have nz1:¬ (0:Int) < (n1:Int):=by omega
            have nz2:¬ cc < n1:=by omega
            clear hz;obtain ⟨wq,rfl⟩:∃ x,x = wq0:=⟨_,rfl⟩;go_wp2;refine Flow.region [.w,.p,.p,.p,.w,.p,.w,.last,.p,.p,.p,.last,.last] [0,1,2,3,4,5,6,7,8,9,10,11,12] [[],[],[],[1,2],[0,1,2,3],[],[5],[0,1,2,3,4,5,6],[],[],[8,9],[0,1,2,3,4,5,6,7,8,9,10],[0,1,2,3,4,5,6,7,8,9,10,11]] [7,11,12]
             [⟨fun v wz=>Q0p wz (v 0) wq.heap.size 44,fun _ _ _ hx h=>h.ext hx⟩,.c 1 (.slice (some ⟨g0,0,none⟩) us.length cc),.c 2 (.int .i64 n1),.c 3 (.slice (some ⟨g0,0,none⟩) n1 cc),⟨fun v wz=>(fun v w'=>Q0g w' wq.heap.size 44 idV (v 4) (us.take n1)) v wz,fun _ _ _ hx h=>Q0g.below h hx⟩,.c 5 ((Value.slice Ah (k + 1) ch)),⟨fun v wz=>Q2f wz (v 6) (Value.slice Ah (k + 1) ch),fun _ _ _ hx h=>h.ext hx⟩,.none,.c 8 (.slice (some ⟨g0,0,none⟩) us.length cc),.c 9 (.int .i64 n1),.c 10 (.slice (if cc = n1 then some ⟨g0,0,none⟩ else some ⟨g0,0 + n1,none⟩) (us.length - n1) (cc - n1)),.none,.none]
             [fun v w1 w'=>Q0g w' wq.heap.size 44 idV (v 7) (us.take n1 ++ [(Value.slice Ah (k + 1) ch)]) /\ Below wq.heap.size w1 w',fun v w1 w'=>Q0g w' wq.heap.size 44 idV (v 11) (us.take n1 ++ [(Value.slice Ah (k + 1) ch)] ++ us.drop n1) /\ Below wq.heap.size w1 w',fun v w1 w'=>v 12 = v 11 /\ Q0g w' wq.heap.size 44 idV (v 11) (us.take n1 ++ [(Value.slice Ah (k + 1) ch)] ++ us.drop n1) /\ Below wq.heap.size w1 w'] (by kernel_rfl) rfl (by kernel_rfl) ⟨?g0,?g1,?g2,?g3,?g4,?g5,?g6,?g7,?g8,?g9,?g10,?g11,?g12,trivial⟩ ?post
            case g0=>
             intro v w1 hx;intro K hK;go_simp;exact hK _ _ (Ext.box _ _) (Q0p.made _ _ _ hx.size)
            case g1 | g2 | g5 | g8 | g9=>
             intro v w1 hx;refine ⟨_,fun w=>?_,rfl⟩;go_simp
            case g3 | g10=>
             intro v w1 hx;(repeat intro (zq:v _ = _));refine ⟨_,fun w=>?_,rfl⟩;go_simp
            case g4=>
             intro v w1 hx (q0:Q0p w1 (v 0) wq.heap.size 44) (q1:v 1 = _) (q2:v 2 = _) (q3:v 3 = _);intro K hK;have l1:(us.take n1).length = n1:=by rw [List.length_take]; omega
             refine Q1f _ _ 84 rfl wq.heap.size 44 i0 (.slice none 0 0) 24 Tryz.underlying84 hi hz0 hz1 hz2 rfl idV (v 0) (v 3) (us.take n1) (by go_simp) q0 (by go_simp) ?_ (fun y hy=>HONE.out y (List.mem_of_mem_take hy)) (by omega) (by decide) hx.size (fun v' w' hown hx2=>hK _ _ hx2 hown)
             rw [q3];exact ⟨_,_,by rw [l1],fun j hj=>⟨g0,0,rfl,by rw [List.getElem_take]; exact hx.cell (hxi.cell (HCL.out j (by omega)))⟩⟩
            case g6=>
             intro v w1 hx;(repeat intro (zq:v _ = _));intro K hK;go_simp;exact hK _ _ (Ext.box _ _) (Q2f.made _ _ _)
            case g7=>
             intro v w1 hx _ (q1:v 1 = _) (q2:v 2 = _) (q3:v 3 = _) (q4:(fun v w'=>Q0g w' wq.heap.size 44 idV (v 4) (us.take n1)) v w1) (q5:v 5 = _) (q6:Q2f w1 (v 6) (Value.slice Ah (k + 1) ch));intro wl hT;obtain rfl:wl = w1:=hT;intro bb hbb;subst hbb;intro K hK;refine Q1k _ _ 84 rfl wq.heap.size 44 i0 (.slice none 0 0) 24 Tryz.underlying84 hi hz0 hz1 hz2 rfl idV (v 4) (v 6) (us.take n1) [(Value.slice Ah (k + 1) ch)] (by go_simp) q4 (by go_simp) (Q2f.src q6) (fun y hy=>by rw [List.mem_singleton] at hy; rw [hy]; exact (show (idV (Value.slice Ah (k + 1) ch)).oneCell' = true from rfl)) (by rw [List.length_take,List.length_singleton]; omega) (by decide) hx.size (fun v' w' hown hg=>hK _ _ ⟨hown,below_grown q4 hg (Nat.le_refl _) hx.size⟩)
            case g11=>
             intro v w1 hx _ (q1:v 1 = _) (q2:v 2 = _) (q3:v 3 = _) _ (q5:v 5 = _) _ (q8:v 8 = _) (q9:v 9 = _) (q10:v 10 = _);intro wl hT;replace hT:(fun v w1 w'=>Q0g w' wq.heap.size 44 idV (v 7) (us.take n1 ++ [(Value.slice Ah (k + 1) ch)]) /\ Below wq.heap.size w1 w') v w1 wl:=hT;intro bb hbb;subst hbb;obtain ⟨hT1,hT2⟩:=hT;intro K hK;have hsz:wq.heap.size <= wl.heap.size:=Nat.le_trans hx.size hT2.size;have l2:(us.drop n1).length = us.length - n1:=List.length_drop;have hc2:Hid (∀ j (hj:j < us.length),wl.cell? ⟨g0,0 + j,none⟩ = some (idV us[j])):=fun j hj=>(hT2.cell (p:=⟨g0,0 + j,none⟩) (Nat.lt_of_lt_of_le hgl hxi.size)).trans (hx.cell (hxi.cell (HCL.out j hj)));refine Q1k _ _ 84 rfl wq.heap.size 44 i0 (.slice none 0 0) 24 Tryz.underlying84 hi hz0 hz1 hz2 rfl idV (v 7) (v 10) (us.take n1 ++ [(Value.slice Ah (k + 1) ch)]) (us.drop n1) (by go_simp) hT1 (by go_simp) ?_ (fun y hy=>HONE.out y (List.mem_of_mem_drop hy)) (by rw [List.length_append,List.length_take,List.length_singleton]; omega) (by decide) hsz (fun v' w' hown hg=>hK _ _ ⟨hown,hT2.trans (below_grown hT1 hg (Nat.le_refl _) hsz)⟩)
             rw [q10];exact ⟨_,_,by rw [l2],fun j hj=>⟨g0,0 + n1,by rw [if_neg (by omega)],by rw [List.getElem_drop,Nat.add_assoc]; exact hc2.out (n1 + j) (by omega)⟩⟩
            case g12=>
             intro v w1 hx _ (q1:v 1 = _) (q2:v 2 = _) (q3:v 3 = _) _ (q5:v 5 = _) _ (q8:v 8 = _) (q9:v 9 = _) (q10:v 10 = _);intro wl hT;replace hT:(fun v w1 w'=>Q0g w' wq.heap.size 44 idV (v 11) (us.take n1 ++ [(Value.slice Ah (k + 1) ch)] ++ us.drop n1) /\ Below wq.heap.size w1 w') v w1 wl:=hT;intro bb hbb;subst hbb;intro K hK;go_simp;exact hK _ _ ⟨rfl,hT⟩
            case post =>
             intro v w1 hx (q0:Q0p w1 (v 0) wq.heap.size 44);(iterate 3 intro (zq:v _ = _));intro (q4:(fun v w'=>Q0g w' wq.heap.size 44 idV (v 4) (us.take n1)) v w1);(iterate 1 intro (zq:v _ = _));intro (q6:Q2f w1 (v 6) (Value.slice Ah (k + 1) ch));(iterate 3 intro (zq:v _ = _));intro w2 hE;replace hE:(fun v w1 w'=>v 12 = v 11 /\ Q0g w' wq.heap.size 44 idV (v 11) (us.take n1 ++ [(Value.slice Ah (k + 1) ch)] ++ us.drop n1) /\ Below wq.heap.size w1 w') v w1 w2:=hE;simp only [Flow.acts,Act.put];go_simp;obtain ⟨_,e2,e3⟩:=hE;have hx9:=X4k hx e3;have hrl9:=RL.insert (HRL.out.ext (hxi.trans hx9)) (HHH.out.below (hxi.trans hx9)) (show n1 <= rt.length by have:=HLU.out; omega)
             have hown9:=e2.weaken (show W.heap.size <= wq.heap.size from Nat.le_trans hB4 hxi.size)
             have HST9:Hid (s.Q4s k (m + 1) = rt.take n1 ++ [hh] ++ rt.drop n1):=HST.out.trans (Y1k HZ.out HZ0.out);have HR9:Hid (RL _ _ _):=hrl9;have hxz:=(HXO.out.trans hxi).trans hx9;clear hrl9 q0 q4 q6 hx e3 hx9;go_wp2
             all_goals
              go_roundw
              case rel=>exact ⟨m + 1,by omega,by go_num,⟨_,hown9,by rw [HST9.out]; exact HR9.out⟩,hxz⟩
              case measure=>simp [intOf]; omega
          . have i1:(0:Int) < (n1:Int):=by omega
            have i2:(0:Int) <= (n1:Int) - 1:=by omega
            have i3:(n1:Int) - 1 < (us.length:Int):=by omega
            have i4:((n1:Int) - 1).toNat = n1 - 1:=by omega
            have nz2:¬ cc < n1:=by omega
            have hcell:=hxi.cell (HCL.out (n1 - 1) (by omega))
            rw [Nat.zero_add] at hcell;have hin:=(HRL.out.ext hxi).2 (n1 - 1) (by have:=HLU.out; omega)
            rw [Q0r _ (show n1 - 1 < us.length by omega)] at hin
            have hl1:=HLENS.out (n1 - 1) (by have:=HLU.out; omega)
            have hps:Q1l hh rt n1 = if Q1i hh (rt.getD (n1 - 1) []) then Q1l hh rt (n1 - 1) else n1:=by
             obtain ⟨m,rfl⟩:∃ m,n1 = m + 1:=⟨n1 - 1,by omega⟩
             rfl
            obtain ⟨ml,hml⟩:∃ ml,rt.getD (n1 - 1) [] = ml:=⟨_,rfl⟩;have HML:=Lib.hid hml;rw [hml] at hin hps hl1;have hbe:Q1i hh ml = Q3r hh ml:=by unfold Q1i; rw [if_pos (HHL.out.trans hl1.symm)]
            rw [hbe] at hps;have hin:Q0b wq0 (idV (us[n1 - 1]'(by omega))) ml:=hin.ints (by omega)
            have HIN:=Lib.hid hin;have HLE:Hid (hh.length = ml.length):=HHL.out.trans hl1.symm;have HHI:Hid (Q0b w4 (.slice Ah (k + 1) ch) hh):=HHH.out.ints (by rw [HHL.out]; omega)
            have HPS:=Lib.hid hps;clear hml hps hz hin hbe hl1;cases hbf:Q3r hh ml with
            | true =>
              go_wp2_with (go_at_call 91; refine (Q9w _ _ _ _ _ (HHI.out.ext hxi) HIN.out HLE.out).mono ?_; rintro e w5 ⟨rfl,hx5⟩);go_roundw
              case rel=>exact ⟨n1 - 1,by omega,by go_num,by rw [<- HPOS.out,HPS.out,hbf]; rfl,hxi.trans hx5⟩
              case measure=>simp [intOf]; omega
            | false =>
              have HZ:Hid (n1 = Q1l hh rt rt.length):=by rw [<- HPOS.out,HPS.out,hbf]; rfl
              cases hsm:decide (ml = hh) with
              | true =>
                have hcell6:=hcell;go_wp2_with (first | (go_at_call 91; refine (Q9w _ _ _ _ _ (HHI.out.ext hxi) HIN.out HLE.out).mono ?_; rintro e w5 ⟨rfl,hx5⟩; have hcell5:=hx5.cell hcell) | (go_at_call 41; refine (Q2w _ _ _ _ _ (HIN.out.ext hx5) ((HHI.out.ext hxi).ext hx5)).mono ?_; rintro e w6 ⟨rfl,hx6⟩; rw [hsm]))
                go_roundw
                case rel=>exact ⟨m + 1,by omega,by go_num,⟨us,HOU.out.below (hxi.trans (hx5.trans hx6)),by rw [HST.out,Z0s HZ.out (by omega) (HML.out.trans (of_decide_eq_true hsm))]; exact HRL.out.ext (hxi.trans (hx5.trans hx6))⟩,HXO.out.trans (hxi.trans (hx5.trans hx6))⟩
                case measure=>simp [intOf]; omega
              | false =>
                have HZ0:Hid (n1 = 0 ∨ rt.getD (n1 - 1) [] ≠ hh):=.inr (by rw [HML.out]; exact of_decide_eq_false hsm)
                go_wp2_with (first | (go_at_call 91; refine (Q9w _ _ _ _ _ (HHI.out.ext hxi) HIN.out HLE.out).mono ?_; rintro e w5 ⟨rfl,hx5⟩; have hcell5:=hx5.cell hcell) | (go_at_call 41; refine (Q2w _ _ _ _ _ (HIN.out.ext hx5) ((HHI.out.ext hxi).ext hx5)).mono ?_; rintro e w6 ⟨rfl,hx6⟩; rw [hsm]))
                replace hxi:=hxi.trans (hx5.trans hx6);clear hx5 hx6 hcell hcell5 HIN;obtain ⟨wq,rfl⟩:∃ x,x = w6:=⟨_,rfl⟩;refine Flow.region [.w,.p,.p,.p,.w,.p,.w,.last,.p,.p,.p,.last,.last] [0,1,2,3,4,5,6,7,8,9,10,11,12] [[],[],[],[1,2],[0,1,2,3],[],[5],[0,1,2,3,4,5,6],[],[],[8,9],[0,1,2,3,4,5,6,7,8,9,10],[0,1,2,3,4,5,6,7,8,9,10,11]] [7,11,12]
                 [⟨fun v wz=>Q0p wz (v 0) wq.heap.size 44,fun _ _ _ hx h=>h.ext hx⟩,.c 1 (.slice (some ⟨g0,0,none⟩) us.length cc),.c 2 (.int .i64 n1),.c 3 (.slice (some ⟨g0,0,none⟩) n1 cc),⟨fun v wz=>(fun v w'=>Q0g w' wq.heap.size 44 idV (v 4) (us.take n1)) v wz,fun _ _ _ hx h=>Q0g.below h hx⟩,.c 5 ((Value.slice Ah (k + 1) ch)),⟨fun v wz=>Q2f wz (v 6) (Value.slice Ah (k + 1) ch),fun _ _ _ hx h=>h.ext hx⟩,.none,.c 8 (.slice (some ⟨g0,0,none⟩) us.length cc),.c 9 (.int .i64 n1),.c 10 (.slice (if cc = n1 then some ⟨g0,0,none⟩ else some ⟨g0,0 + n1,none⟩) (us.length - n1) (cc - n1)),.none,.none]
                 [fun v w1 w'=>Q0g w' wq.heap.size 44 idV (v 7) (us.take n1 ++ [(Value.slice Ah (k + 1) ch)]) /\ Below wq.heap.size w1 w',fun v w1 w'=>Q0g w' wq.heap.size 44 idV (v 11) (us.take n1 ++ [(Value.slice Ah (k + 1) ch)] ++ us.drop n1) /\ Below wq.heap.size w1 w',fun v w1 w'=>v 12 = v 11 /\ Q0g w' wq.heap.size 44 idV (v 11) (us.take n1 ++ [(Value.slice Ah (k + 1) ch)] ++ us.drop n1) /\ Below wq.heap.size w1 w'] (by kernel_rfl) rfl (by kernel_rfl) ⟨?g0,?g1,?g2,?g3,?g4,?g5,?g6,?g7,?g8,?g9,?g10,?g11,?g12,trivial⟩ ?post
                case g0=>
                 intro v w1 hx;intro K hK;go_simp;exact hK _ _ (Ext.box _ _) (Q0p.made _ _ _ hx.size)
                case g1 | g2 | g5 | g8 | g9=>
                 intro v w1 hx;refine ⟨_,fun w=>?_,rfl⟩;go_simp
                case g3 | g10=>
                 intro v w1 hx;(repeat intro (zq:v _ = _));refine ⟨_,fun w=>?_,rfl⟩;go_simp
                case g4=>
                 intro v w1 hx (q0:Q0p w1 (v 0) wq.heap.size 44) (q1:v 1 = _) (q2:v 2 = _) (q3:v 3 = _);intro K hK;have l1:(us.take n1).length = n1:=by rw [List.length_take]; omega
                 refine Q1f _ _ 84 rfl wq.heap.size 44 i0 (.slice none 0 0) 24 Tryz.underlying84 hi hz0 hz1 hz2 rfl idV (v 0) (v 3) (us.take n1) (by go_simp) q0 (by go_simp) ?_ (fun y hy=>HONE.out y (List.mem_of_mem_take hy)) (by omega) (by decide) hx.size (fun v' w' hown hx2=>hK _ _ hx2 hown)
                 rw [q3];exact ⟨_,_,by rw [l1],fun j hj=>⟨g0,0,rfl,by rw [List.getElem_take]; exact hx.cell (hxi.cell (HCL.out j (by omega)))⟩⟩
                case g6=>
                 intro v w1 hx;(repeat intro (zq:v _ = _));intro K hK;go_simp;exact hK _ _ (Ext.box _ _) (Q2f.made _ _ _)
                case g7=>
                 intro v w1 hx _ (q1:v 1 = _) (q2:v 2 = _) (q3:v 3 = _) (q4:(fun v w'=>Q0g w' wq.heap.size 44 idV (v 4) (us.take n1)) v w1) (q5:v 5 = _) (q6:Q2f w1 (v 6) (Value.slice Ah (k + 1) ch));intro wl hT;obtain rfl:wl = w1:=hT;intro bb hbb;subst hbb;intro K hK;refine Q1k _ _ 84 rfl wq.heap.size 44 i0 (.slice none 0 0) 24 Tryz.underlying84 hi hz0 hz1 hz2 rfl idV (v 4) (v 6) (us.take n1) [(Value.slice Ah (k + 1) ch)] (by go_simp) q4 (by go_simp) (Q2f.src q6) (fun y hy=>by rw [List.mem_singleton] at hy; rw [hy]; exact (show (idV (Value.slice Ah (k + 1) ch)).oneCell' = true from rfl)) (by rw [List.length_take,List.length_singleton]; omega) (by decide) hx.size (fun v' w' hown hg=>hK _ _ ⟨hown,below_grown q4 hg (Nat.le_refl _) hx.size⟩)
                case g11=>
                 intro v w1 hx _ (q1:v 1 = _) (q2:v 2 = _) (q3:v 3 = _) _ (q5:v 5 = _) _ (q8:v 8 = _) (q9:v 9 = _) (q10:v 10 = _);intro wl hT;replace hT:(fun v w1 w'=>Q0g w' wq.heap.size 44 idV (v 7) (us.take n1 ++ [(Value.slice Ah (k + 1) ch)]) /\ Below wq.heap.size w1 w') v w1 wl:=hT;intro bb hbb;subst hbb;obtain ⟨hT1,hT2⟩:=hT;intro K hK;have hsz:wq.heap.size <= wl.heap.size:=Nat.le_trans hx.size hT2.size;have l2:(us.drop n1).length = us.length - n1:=List.length_drop;have hc2:Hid (∀ j (hj:j < us.length),wl.cell? ⟨g0,0 + j,none⟩ = some (idV us[j])):=fun j hj=>(hT2.cell (p:=⟨g0,0 + j,none⟩) (Nat.lt_of_lt_of_le hgl hxi.size)).trans (hx.cell (hxi.cell (HCL.out j hj)));refine Q1k _ _ 84 rfl wq.heap.size 44 i0 (.slice none 0 0) 24 Tryz.underlying84 hi hz0 hz1 hz2 rfl idV (v 7) (v 10) (us.take n1 ++ [(Value.slice Ah (k + 1) ch)]) (us.drop n1) (by go_simp) hT1 (by go_simp) ?_ (fun y hy=>HONE.out y (List.mem_of_mem_drop hy)) (by rw [List.length_append,List.length_take,List.length_singleton]; omega) (by decide) hsz (fun v' w' hown hg=>hK _ _ ⟨hown,hT2.trans (below_grown hT1 hg (Nat.le_refl _) hsz)⟩)
                 rw [q10];exact ⟨_,_,by rw [l2],fun j hj=>⟨g0,0 + n1,by rw [if_neg (by omega)],by rw [List.getElem_drop,Nat.add_assoc]; exact hc2.out (n1 + j) (by omega)⟩⟩
                case g12=>
                 intro v w1 hx _ (q1:v 1 = _) (q2:v 2 = _) (q3:v 3 = _) _ (q5:v 5 = _) _ (q8:v 8 = _) (q9:v 9 = _) (q10:v 10 = _);intro wl hT;replace hT:(fun v w1 w'=>Q0g w' wq.heap.size 44 idV (v 11) (us.take n1 ++ [(Value.slice Ah (k + 1) ch)] ++ us.drop n1) /\ Below wq.heap.size w1 w') v w1 wl:=hT;intro bb hbb;subst hbb;intro K hK;go_simp;exact hK _ _ ⟨rfl,hT⟩
                case post =>
                 intro v w1 hx (q0:Q0p w1 (v 0) wq.heap.size 44);(iterate 3 intro (zq:v _ = _));intro (q4:(fun v w'=>Q0g w' wq.heap.size 44 idV (v 4) (us.take n1)) v w1);(iterate 1 intro (zq:v _ = _));intro (q6:Q2f w1 (v 6) (Value.slice Ah (k + 1) ch));(iterate 3 intro (zq:v _ = _));intro w2 hE;replace hE:(fun v w1 w'=>v 12 = v 11 /\ Q0g w' wq.heap.size 44 idV (v 11) (us.take n1 ++ [(Value.slice Ah (k + 1) ch)] ++ us.drop n1) /\ Below wq.heap.size w1 w') v w1 w2:=hE;simp only [Flow.acts,Act.put];go_simp;obtain ⟨_,e2,e3⟩:=hE;have hx9:=X4k hx e3;have hrl9:=RL.insert (HRL.out.ext (hxi.trans hx9)) (HHH.out.below (hxi.trans hx9)) (show n1 <= rt.length by have:=HLU.out; omega)
                 have hown9:=e2.weaken (show W.heap.size <= wq.heap.size from Nat.le_trans hB4 hxi.size)
                 have HST9:Hid (s.Q4s k (m + 1) = rt.take n1 ++ [hh] ++ rt.drop n1):=HST.out.trans (Y1k HZ.out HZ0.out);have HR9:Hid (RL _ _ _):=hrl9;have hxz:=(HXO.out.trans hxi).trans hx9;clear hrl9 q0 q4 q6 hx e3 hx9;go_wp2
                 all_goals
                  go_roundw
                  case rel=>exact ⟨m + 1,by omega,by go_num,⟨_,hown9,by rw [HST9.out]; exact HR9.out⟩,hxz⟩
                  case measure=>simp [intOf]; omega
     . have hmn:m = n:=by omega
       subst hmn;have hsz:=Q8q s k m;have hsz2:(s.Q4v k).length <= 6 * 8:=Nat.le_trans (X0x s k) (Nat.mul_le_mul (by omega) (by rw [HN.out]; omega))
       have HSZ:Hid ((s.Q4s k m).length <= 2000):=Lib.hid (by omega)
       have HSZ2:Hid ((s.Q4v k).length <= 2000):=Lib.hid (by omega)
       have HSZ3:Hid (W.heap.size <= w2.heap.size):=Lib.hid HXW2.out.size;have hst:s.Q4v (k + 1) = s.Q4v k ++ s.Q4s k m:=by rw [<- HN.out]; rfl
       have HST:=Lib.hid hst;have hcells:True:=trivial;clear hsz hsz2 hst;go_wp2_with (refine Q5d (o:=⟨some 74,_,_,_,_,_⟩) rfl ?_; refine X3o (.tmp 72) (.tmp 73) rfl rfl (HO.out.ext HX2.out) rfl HR.out HSZ2.out HSZ.out HSZ3.out ?_; intro v' w9 hown' hb9);have HLL:=Lib.hid hown';have HB9:Hid (Ext W w9):=Below.trans HXW2.out hb9;clear hown' hb9;go_wp2;go_roundw
       case rel=>exact ⟨k + 1,by omega,by go_num,by rw [HST.out]; exact HLL.out,HB9.out⟩
       case measure=>simp [intOf]; omega
  . have hkT:k = T:=by omega
    subst hkT;have he:s.hist = s.Q4v k:=by rw [<- HT.out]; rfl
    have HE:=Lib.hid he;clear he;go_wp2;go_ret;exact ⟨_,rfl,by rw [HE.out]; exact HO.out.weaken HW.out.size,HW.out.trans HXK.out⟩
end Go.Proofs
namespace Go.Proofs
open Go.RowKit Go.Tw Go.Flow
attribute [local go_sem] Oper.semAt_some
def cdN (n k:Nat):Nat:=n / 2 ^ k
def cdB (n k:Nat):Bool:=n.testBit k
theorem Z0m (n:Nat):cdN n 0 = n:=by unfold cdN; simp
theorem Y6d (s:Q0c) (n:Nat) {k:Nat} (hk:k < s.hist.length):(Q2v s n).take (k + 1) = (Q2v s n).take k ++ [⟨s.hist.getD k [],cdB n k⟩]:=by
 have hl:k < (Q2v s n).length:=by unfold Q2v; simpa using hk
 rw [List.take_succ_eq_append_getElem hl]
 congr 2
 unfold Q2v;simp [cdB]
theorem X4b (s:Q0c) (n:Nat):(Q2v s n).length = s.hist.length:=by unfold Q2v; simp
theorem Y2m (w:World) (v:Value) (s:Q0c) (n:Nat) (hv:Q0o w v s) (he:s.err = 0) (hn:n < 2 ^ 63) :
    Calls Tryz.prog 16 #[v,.int .i64 (n:Int)] w fun e w'=>∃ x,e = .returned x /\ Z1t 66 w w' x (Q2v s n) /\ Ext w w':=by
 obtain ⟨i0,hi,hz0,hz1,hz2⟩:=info_parts Tryz.Z5s;have hS:=Q1d.of he;have hhl:=Q7l hS;have hhp:=Y9r hS;have HV:=Lib.hid hv;have HERR:=Lib.hid he;have h8:Hid (∀ h ∈ s.hist,h.length <= 6):=Q6z hS;obtain ⟨a,b,rfl,-⟩:=hv;have ha:∃ A n c,a = .slice A n c:=by obtain ⟨_,_,e,h2⟩:=HV.out; cases e; obtain ⟨A,c,e,-⟩:=h2.ships.opened; exact ⟨A,_,c,e⟩
 have hb:∃ A n c,b = .slice A n c:=by obtain ⟨_,_,e,h2⟩:=HV.out; cases e; obtain ⟨A,c,e,-⟩:=h2.members.opened; exact ⟨A,_,c,e⟩
 obtain ⟨A1,n1,ca1,rfl⟩:=ha;obtain ⟨A2,n2,ca2,rfl⟩:=hb;have HP:=Lib.hid (X4b s n);have HTK:Hid (∀ k,k < s.hist.length -> (Q2v s n).take (k + 1) = (Q2v s n).take k ++ [⟨s.hist.getD k [],cdB n k⟩]):=fun k hk=>Y6d s n hk;clear hS he;go_enter Tryz.func16,Tryz.ntmps16;go_wp2_with fail;obtain ⟨W,hWW,k0,k1,HXW,eW⟩:=Q5t w 55 #[.int .i64 s.limit,.slice A1 n1 ca1,.slice A2 n2 ca2] 60 #[.slice none 0 0];rw [hWW];clear hWW;have HV1:=Lib.hid (HV.out.ext HXW.out);obtain ⟨gs,hgs⟩:∃ x,w.heap.size = x:=⟨_,rfl⟩;have HGS:=Lib.hid hgs;rw [hgs] at k0 k1 eW ⊢;have K1:=Lib.hid k1;have c0:=k0.cell 0;have c1:=k0.cell 1;have c2:=k0.cell 2;simp only [Go.Tw.gA,Go.Tw.gB,Go.Tw.gC] at c0 c1 c2;clear k0 k1 hgs;go_wp2_with (go_at_call 42; refine (X5y _ _ s HV1.out HERR.out).mono ?_; rintro e wh ⟨xh,rfl,hll,hxh⟩; refine halted ?_);obtain ⟨vs,hoh,hrl⟩:=hll;have hlu:=hrl.1
 rcases hoh.cells2 with ⟨rfl,hve⟩ | ⟨g0,cc,rfl,hcc,hbg,hgl,hcl⟩
 . exfalso
   rw [hve] at hlu;simp at hlu;omega
 obtain ⟨H,hH⟩:∃ x,s.hist.length = x:=⟨_,rfl⟩;rw [hH] at hlu hhl HTK HP;rw [hlu] at hcc;have HLU:=Lib.hid hlu;have HHH:=Lib.hid hH;have HCL:=Lib.hid hcl;have HRL:=Lib.hid hrl;have hxp:=Ext.box wh (.cells #[.slice none 0 0] 60);have hbp:=Blk.made wh 60 #[.slice none 0 0];have hes:(wh.alloc (.cells #[.slice none 0 0] 60)).heap.size = wh.heap.size + 1:=by simp
 rw [hlu];unfold Q5f;go_wp2_with fail;obtain ⟨gp,hgp⟩:∃ x,wh.heap.size = x:=⟨_,rfl⟩;obtain ⟨wp,hwp⟩:∃ X,wh.alloc (.cells #[.slice none 0 0] 60) = X:=⟨_,rfl⟩;rw [hwp,hgp] at hbp hes;rw [hwp] at hxp;rw [hwp,hgp];have HGP:=Lib.hid hgp;have HXH:=Lib.hid hxh;have HXP:=Lib.hid hxp;have hgW:gs + 1 < gp:=by have:=hxh.size; omega
 clear hwp hgp hoh hrl hcl hlu hH hhp hxh c0 c1 c2
 go_loopw [1,7] (fun c i wr=>∃ (k:Nat) (vo:Value) (qs:List (Value × Rul)),k <= H /\ i = .int .i64 k /\ c = .int .i64 (cdN n k:Nat) /\ Blk wr gp 60 #[vo] /\ Q1r wr (gp + 1) 66 2 Q4g vo qs /\ qs.map (·.2) = (Q2v s n).take k /\ RuR wr qs /\ Ext wh wr /\ gp + 1 <= wr.heap.size) (fun _ i _=>H - (intOf i).toNat)
 case atStart=>exact ⟨0,_,[],Nat.zero_le _,rfl,by rw [Z0m],hbp,Q1r.nil _ _ _ _ _,rfl,(fun q hq=>by simp at hq),HXP.out,by omega⟩
 case round =>
  obtain ⟨k,vo,qs,hk,rfl,rfl,hbo,hown,hqs,hru,hxr,hsz⟩:=hrel;have hqk:qs.length = k:=by rw [<- List.length_map (f:=(·.2)),hqs,List.length_take,HP.out]; omega
  have HQS:=Lib.hid hqs;have HRU:=Lib.hid hru;have HBO:=Lib.hid hbo;have HOW:=Lib.hid hown;have HXR:=Lib.hid hxr
  by_cases hlt:k < H
  . have hkI:(k:Int) < H:=by omega
    have hek:=hxr.cell (HCL.out k (by rw [HLU.out]; exact hlt))
    rw [Nat.zero_add] at hek;have hok:=HRL.out.2 k (by rw [HHH.out]; exact hlt)
    rw [Q0r _ (show k < vs.length by rw [HLU.out]; exact hlt)] at hok
    obtain ⟨hv1,hhv⟩:∃ x,vs[k]'(by rw [HLU.out]; exact hlt) = x:=⟨_,rfl⟩
    have hek:wr.cell? ⟨g0,k,none⟩ = some (vs[k]'(by rw [HLU.out]; exact hlt)):=hek
    rw [hhv] at hek hok;obtain ⟨X,capx,rfl,hcx⟩:=hok.shape;have htk:=HTK.out k hlt;have hl6:(s.hist.getD k []).length <= 6:=by rw [Q0r _ (by rw [HHH.out]; exact hlt)]; exact h8.out _ (List.getElem_mem _)
    obtain ⟨l,hl⟩:∃ x,s.hist.getD k [] = x:=⟨_,rfl⟩;rw [hl] at hek hok htk hl6;have HEK:=Lib.hid hek;have HTK1:=Lib.hid htk;have HOK:=Lib.hid (hok.below hxr);have hcb:((cdN n k:Nat):Int).tmod 2 = 1 ↔ cdB n k = true:=by
     have:=Y3r n k;unfold cdN cdB;rw [<- this]; simp
    have hcb2:(((cdN n k:Nat):Int).tmod 2 == 1) = cdB n k:=Y3r n k;have hch:((cdN n k:Nat):Int).tdiv 2 = ((cdN n (k + 1):Nat):Int):=Y6n n k;have hnk:cdN n k <= n:=Nat.div_le_self _ _;have hnk1:cdN n (k + 1) <= n:=Nat.div_le_self _ _;obtain ⟨c,hc⟩:∃ x,cdN n k = x:=⟨_,rfl⟩;obtain ⟨c2,hc2⟩:∃ x,cdN n (k + 1) = x:=⟨_,rfl⟩;obtain ⟨q,hq⟩:∃ x,cdB n k = x:=⟨_,rfl⟩;rw [hc] at hcb2 hch hnk ⊢;rw [hc2] at hch hnk1;rw [hq] at hcb2 HTK1;have hcb3:((c:Int) % 2 == 1) = q:=by rw [<- hcb2,Int.tmod_eq_emod_of_nonneg (by omega)]
    have HC2:=Lib.hid hc2;have HCB:=Lib.hid hcb2;have HCB3:=Lib.hid hcb3;have HWC:Hid (wrap64 (c2:Int) = c2):=Lib.hid (by unfold wrap64; omega)
    obtain ⟨wq,rfl⟩:∃ Z,Z = wr:=⟨_,rfl⟩;have hdr:=(Ext.refl wq).drew;clear hbo hown hqs hru hxr hek hok htk hl hhv hc hq hcb hc2 hcb2 hcb3;go_wp2_with fail;refine Flow.Q4k [.p,.w,.p,.p,.p,.w,.p,.p,.p,.p,.w,.last,.last,.last] [0,1,2,3,4,5,6,7,8,9,10,11,12,13] [[],[0],[],[],[2,3],[2,3,4],[],[6],[6,7],[2,3,4,5,6,7,8],[2,3,4,5,6,7,8,9],[0,1,2,3,4,5,6,7,8,9,10],[0,1,2,3,4,5,6,7,8,9,10,11],[0,1,2,3,4,5,6,7,8,9,10,11,12]] [11,12,13]
     [.c 0 (.pointer (some ⟨gp,0,none⟩)),.c 1 (vo),.c 2 (.slice (some ⟨g0,0,none⟩) H cc),.c 3 (.int .i64 (k:Int)),.c 4 (.pointer (some ⟨g0,k,none⟩)),.c 5 (.slice X l.length capx),.c 6 (.int .i64 (c:Int)),.c 7 (.int .i64 ((c:Int).tmod 2)),.c 8 (.bool q),⟨fun v wz=>(fun v w'=>v 9 = .agg #[.slice X l.length capx,.bool q]) v wz,by intro _ _ _ _ h; exact h⟩,⟨fun v wz=>(fun v w'=>∃ g,v 10 = .slice (some ⟨g,0,none⟩) 1 1 /\ Blk w' g 66 (Q4g (.slice X l.length capx,⟨l,q⟩)).toArray) v wz,by rintro v a b hx ⟨g,h1,h2⟩; exact ⟨g,h1,h2.ext hx⟩⟩,.none,.none,.none]
     [fun v w1 w'=>Q1r w' (gp + 1) 66 2 Q4g (v 11) (qs ++ [(.slice X l.length capx,⟨l,q⟩)]) /\ w1.grownBy w' vo.ownBlock,fun v w1 w'=>v 12 = .pointer (some ⟨gp,0,none⟩) /\ Q1r w' (gp + 1) 66 2 Q4g (v 11) (qs ++ [(.slice X l.length capx,⟨l,q⟩)]) /\ w1.grownBy w' vo.ownBlock,fun v w1 w'=>∃ x wm,Q1r wm (gp + 1) 66 2 Q4g x (qs ++ [(.slice X l.length capx,⟨l,q⟩)]) /\ w1.grownBy wm vo.ownBlock /\ w' = wm.setCell ⟨gp,0,none⟩ x] (by kernel_rfl) rfl (by kernel_rfl) ⟨?g0,?g1,?g2,?g3,?g4,?g5,?g6,?g7,?g8,?g9,?g10,?g11,?g12,?g13,trivial⟩ ?post
    case g0 | g2 | g3 | g6=>
     intro v w1 hx;intro bb hbb;subst hbb;refine ⟨_,fun w=>?_,rfl⟩;go_simp
    case g1 | g5=>
     intro v w1 hx;(repeat intro (zq:v _ = _));intro bb hbb;subst hbb;have n0:w1.cell? ⟨gp,0,none⟩ = some vo:=(HBO.out.ext (hdr.trans hx)).cell 0;have n1:w1.cell? ⟨g0,k,none⟩ = some (.slice X l.length capx):=(hdr.trans hx).cell HEK.out;intro K hK;go_simp;exact hK _ _ (Ext.refl _) rfl
    case g4 | g7=>
     intro v w1 hx;(repeat intro (zq:v _ = _));intro bb hbb;subst hbb;refine ⟨_,fun w=>?_,rfl⟩;go_simp
    case g8=>
     intro v w1 hx;(repeat intro (zq:v _ = _));intro bb hbb;subst hbb;refine ⟨.bool q,fun w=>?_,rfl⟩;go_simp
     (first | exact HCB.out | (rw [HCB.out]) | (rw [HCB3.out]))
    case g9=>
     intro v w1 hx;(repeat intro (zq:v _ = _));intro bb hbb;have o1:bb.eval (.tmp 21) = .slice X l.length capx:=by rw [hbb]; dsimp only; (try simp (discharger:=decide) only [eval_put_ne]); rw [Q0a (by simp only [size_put]; exact (by decide:21 < 32))]; assumption
     have o2:bb.eval (.tmp 24) = .bool q:=by rw [hbb]; dsimp only; (try simp (discharger:=decide) only [eval_put_ne]); rw [Q0a (by simp only [size_put]; exact (by decide:24 < 32))]; assumption
     exact ⟨_,fun w=>X0g _ (.tmp 21) (.tmp 24) rfl o1 o2 (fun w=>X9x w _ _ _ _),rfl⟩
    case g10=>
     intro v w1 hx (q2:v 2 = _) (q3:v 3 = _) (q4:v 4 = _) (q5:v 5 = _) (q6:v 6 = _) (q7:v 7 = _) (q8:v 8 = _) (q9:(fun v w'=>v 9 = .agg #[.slice X l.length capx,.bool q]) v w1);intro bb hbb;intro K hK;have o1:bb.eval (.tmp 25) = .agg #[.slice X l.length capx,.bool q]:=by rw [hbb]; dsimp only; (try simp (discharger:=decide) only [eval_put_ne]); rw [Q0a (by simp only [size_put]; exact (by decide:25 < 32))]; exact q9
     exact Q4a 58 66 (.tmp 25) rfl o1 (Y7l w1 _ _ _ _) (hK _ _ (Ext.box _ _) ⟨_,rfl,Blk.made _ _ _⟩)
    case g11=>
     intro v w1 hx (q0:v 0 = _) (q1:v 1 = _) (q2:v 2 = _) (q3:v 3 = _) (q4:v 4 = _) (q5:v 5 = _) (q6:v 6 = _) (q7:v 7 = _) (q8:v 8 = _) _ (q10:(fun v w'=>∃ g,v 10 = .slice (some ⟨g,0,none⟩) 1 1 /\ Blk w' g 66 (Q4g (.slice X l.length capx,⟨l,q⟩)).toArray) v w1);intro wl hT;obtain rfl:wl = w1:=hT;intro bb hbb;intro K hK;obtain ⟨g,hg10,hb10⟩:=q10;have o1:bb.eval (.tmp 17) = vo:=by rw [hbb]; dsimp only; (try simp (discharger:=decide) only [eval_put_ne]); rw [Q0a (by simp only [size_put]; exact (by decide:17 < 32))]; exact q1
     have o2:bb.eval (.tmp 26) = .slice (some ⟨g,0,none⟩) 1 1:=by rw [hbb]; dsimp only; (try simp (discharger:=decide) only [eval_put_ne]); rw [Q0a (by simp only [size_put]; exact (by decide:26 < 32))]; exact hg10
     have hxx:=hdr.trans hx;exact Q6h _ _ 58 rfl (gp + 1) 66 i0 (.agg #[.slice none 0 0,.bool false]) 2 32 Tryz.underlying58 hi hz0 hz1 hz2 rfl (by decide) Q4g Q3g vo _ (.slice X l.length capx,⟨l,q⟩) o1 (HOW.out.below hxx) ⟨g,0,none⟩ 1 o2 (X2w hb10) (Y4q (q:=(.slice X l.length capx,⟨l,q⟩)) HOK.out) (by omega) (by decide) (by have:=hxx.size; omega) (fun v' w' h1 h2=>hK _ _ ⟨h1,h2⟩)
    case g12=>
     intro v w1 hx (q0:v 0 = _) (q1:v 1 = _) (q2:v 2 = _) (q3:v 3 = _) (q4:v 4 = _) (q5:v 5 = _) (q6:v 6 = _) (q7:v 7 = _) (q8:v 8 = _) _ _;intro wl hT;replace hT:(fun v w1 w'=>Q1r w' (gp + 1) 66 2 Q4g (v 11) (qs ++ [(.slice X l.length capx,⟨l,q⟩)]) /\ w1.grownBy w' vo.ownBlock) v w1 wl:=hT;intro bb hbb;subst hbb;intro K hK;go_simp;exact hK _ _ ⟨rfl,hT⟩
    case g13=>
     intro v w1 hx (q0:v 0 = _) (q1:v 1 = _) (q2:v 2 = _) (q3:v 3 = _) (q4:v 4 = _) (q5:v 5 = _) (q6:v 6 = _) (q7:v 7 = _) (q8:v 8 = _) _ _;intro wl hT;replace hT:(fun v w1 w'=>v 12 = .pointer (some ⟨gp,0,none⟩) /\ Q1r w' (gp + 1) 66 2 Q4g (v 11) (qs ++ [(.slice X l.length capx,⟨l,q⟩)]) /\ w1.grownBy w' vo.ownBlock) v w1 wl:=hT;intro bb hbb;intro K hK;obtain ⟨hT0,hT1,hT2⟩:=hT;have hxx:=hdr.trans hx;obtain ⟨bp,cp,hsh,_⟩:=hT1.shape;have o1:bb.eval (.tmp 28) = .pointer (some ⟨gp,0,none⟩):=by rw [hbb]; dsimp only; (try simp (discharger:=decide) only [eval_put_ne]); rw [Q0a (by simp only [size_put]; exact (by decide:28 < 32))]; exact hT0
     have o2:bb.eval (.tmp 27) = v 11:=by rw [hbb]; dsimp only; (try simp (discharger:=decide) only [eval_put_ne]); rw [Q0a (by simp only [size_put]; exact (by decide:27 < 32))]
     have hbl:=Go.Tw.Q3m (HBO.out.ext hxx) (HOW.out.below hxx) (by omega) hT2
     exact Q5b _ _ rfl Tryz.Z3r (g:=gp) (k:=0) o1 o2 (by rw [hsh]; rfl) (by rw [hsh]; rfl) hbl (by show 0 < 1; omega) (fun v'=>hK _ _ ⟨v 11,wl,hT1,hT2,rfl⟩)
    case post =>
     intro v w1 hx;(iterate 9 intro (zq:v _ = _));intro (q9:(fun v w'=>v 9 = .agg #[.slice X l.length capx,.bool q]) v w1) (q10:(fun v w'=>∃ g,v 10 = .slice (some ⟨g,0,none⟩) 1 1 /\ Blk w' g 66 (Q4g (.slice X l.length capx,⟨l,q⟩)).toArray) v w1);intro w2 hE;replace hE:(fun v w1 w'=>∃ x wm,Q1r wm (gp + 1) 66 2 Q4g x (qs ++ [(.slice X l.length capx,⟨l,q⟩)]) /\ w1.grownBy wm vo.ownBlock /\ w' = wm.setCell ⟨gp,0,none⟩ x) v w1 w2:=hE;simp only [Flow.acts,Act.put];go_simp;obtain ⟨x,wm,hom,hgm,rfl⟩:=hE;have hxx:=hdr.trans hx;have howx:=HOW.out.below hxx;have hbm:=Go.Tw.Q3m (HBO.out.ext hxx) howx (by omega) hgm
     have HO6:=Lib.hid (hom.X2x (p:=⟨gp,0,none⟩) (Nat.lt_succ_self gp) x);have HB6:=Lib.hid (hbm.set 0 x);have hxm:Ext wh wm:=Below.grown (HXR.out.trans hxx) hgm (by have:=(HXR.out.trans hxx).size; omega) (fun j hj=>by have:=(howx.lt j hj).1; have:=HGP.out; omega)
     have HX6:=Lib.hid (hxm.X7h (p:=⟨gp,0,none⟩) (by show wh.heap.size <= gp; rw [HGP.out]; exact Nat.le_refl _) x)
     have HR6:=Lib.hid ((((HRU.out.ext hxx).snoc (q:=(.slice X l.length capx,⟨l,q⟩)) (HOK.out.below hxx)).grown howx (by decide) hgm).set (k:=0) (u:=x) hbm (by decide))
     have HS6:Hid (gp + 1 <= (wm.setCell ⟨gp,0,none⟩ x).heap.size):=Lib.hid (by have:=hbm.lt; simp; omega)
     obtain ⟨w6,hw6⟩:∃ y,wm.setCell ⟨gp,0,none⟩ x = y:=⟨_,rfl⟩;rw [hw6] at HO6 HB6 HX6 HR6 HS6 ⊢;clear hnk hnk1 hn hw6 hom hgm hxx hx hbm hxm howx hdr q9 q10;(repeat clear zq);go_wp2;go_roundw
     case rel=>exact ⟨k + 1,x,qs ++ [(.slice X l.length capx,⟨l,q⟩)],by omega,by go_num,by first | rw [HC2.out,HWC.out] | rw [HC2.out],HB6.out,HO6.out,by rw [List.map_append,HQS.out,HTK1.out]; rfl,HR6.out,HX6.out,HS6.out⟩
     case measure=>simp [intOf]; omega
  . have hkI:¬ (k:Int) < H:=by omega
    have hkn:k = H:=by omega
    subst hkn;have hp:(Q2v s n).take k = Q2v s n:=by rw [List.take_of_length_le (by rw [HP.out]; omega)]
    obtain ⟨Av,cv',rfl,-⟩:=hown.shape;rw [hqk] at hown hbo;have HOWN:=Lib.hid hown;have HQK:=Lib.hid hqk;have c0:wr.cell? ⟨gp,0,none⟩ = _:=hbo.cell 0;simp only [Go.Tw.gA,Go.Tw.gB] at c0;have hk1:=(K1.out.ext HXH.out).ext hxr;have c1:wr.cell? ⟨gs + 1,0,none⟩ = some (.slice none 0 0):=hk1.cell 0;have f1:=hk1.frozen 0;have HK1:=Lib.hid hk1;have hxa:Ext w wr:=(HXW.out.trans HXH.out).trans hxr;have HXA:=Lib.hid hxa;rw [hp] at hqs;have HQA:=Lib.hid hqs;clear hbo hown hqs hru hxr hk1 hxa hp;go_wp2;refine bodyPost_ret (Q5y Tryz.results16 rfl (HK1.out.set 0 _) Tryz.Z4u Tryz.Z4c) rfl ?_;refine ⟨_,rfl,⟨_,qs,rfl,?_,HQA.out,HRU.out.set HK1.out (by decide)⟩,HXA.out.X7h (p:=⟨gs + 1,0,none⟩) (by show w.heap.size <= gs + 1; have:=HGS.out; omega) _⟩
    have h:=Y2k (HOWN.out.X2x (p:=⟨gs + 1,0,none⟩) (by show gs + 1 < gp + 1; omega) (.slice Av k cv')) (show w.heap.size <= gp + 1 by have:=HGS.out; omega)
    have he:=HQK.out;subst he;exact h
end Go.Proofs
namespace Go.Proofs
open Go.RowKit Go.Tw Go.Flow
attribute [local go_sem] Oper.semAt_some
theorem Q9r {w:World} {v:Value} {l:List Int} (h:Q0b w v l):Src w (Value.int .i64) v l:=by
 obtain ⟨A,cap,rfl,hl,hcap,hc⟩:=h.opened;exact ⟨A,cap,rfl,fun j hj=>by
  obtain ⟨b,off,he,hcell⟩:=hc j hj;exact ⟨b,off,he,by rw [hcell,Q6r hj]⟩⟩
end Go.Proofs
namespace Go.Tw
open Go.RowKit Go.Flow Go.Ba
def Q0z (o i:List Int) (cl:List Bool):Nat -> List Cond
 | 0=>[]
 | k + 1=>Q0z o i cl k ++ [⟨ix o k,!(bx cl k),[ix i k]⟩,⟨0,!(bx cl k),[0]⟩]
theorem Q2l (o i:List Int) (cl:List Bool):∀ k,(Q0z o i cl k).length = 2 * k
 | 0=>rfl
 | k + 1=>by unfold Q0z; rw [List.length_append,Q2l o i cl k]; simp; omega
structure CV where
 td:Int
 op:Bool
 a:Value
def Q7s (p:CV):List Value:=[.int .i64 p.td,.bool p.op,p.a]
def CdR (w:World) (qs:List CV) (l:List Cond):Prop:=qs.length = l.length /\ ∀ k (h:k < qs.length),qs[k].td = (cd l k).tide /\ qs[k].op = (cd l k).opn /\ Q0g w 0 3 (.int .i64) qs[k].a (cd l k).inflow
theorem Y3f {l m:List Cond} {k:Nat} (h:k < l.length):cd (l ++ m) k = cd l k:=by unfold cd; simp [List.getElem?_append_left h]
theorem X7y {l m:List Cond} (j:Nat):cd (l ++ m) (l.length + j) = cd m j:=by unfold cd; simp [List.getElem?_append_right]
theorem Q8t (o i:List Int) (cl:List Bool):∀ n t,t < n -> cd (Q0z o i cl n) (2 * t) = ⟨ix o t,!(bx cl t),[ix i t]⟩ /\ cd (Q0z o i cl n) (2 * t + 1) = ⟨0,!(bx cl t),[0]⟩
 | 0,_,h=>absurd h (Nat.not_lt_zero _)
 | n + 1,t,h=>by
   have hl:=Q2l o i cl n;unfold Q0z
   by_cases e:t < n
   . rw [Y3f (by omega),Y3f (by omega)]; exact Q8t o i cl n t e
   . have:t = n:=by omega
     subst this;have h1:=X7y (l:=Q0z o i cl t) (m:=[⟨ix o t,!(bx cl t),[ix i t]⟩,⟨0,!(bx cl t),[0]⟩]) 0;have h2:=X7y (l:=Q0z o i cl t) (m:=[⟨ix o t,!(bx cl t),[ix i t]⟩,⟨0,!(bx cl t),[0]⟩]) 1;rw [hl] at h1 h2;exact ⟨h1,h2⟩
theorem Y7h (o i:List Int) (cl:List Bool) (n k:Nat) (hk:k < 2 * n):(cd (Q0z o i cl n) k).inflow.length = 1:=by
 have h:=Q8t o i cl n (k / 2) (by omega)
 rcases Nat.mod_two_eq_zero_or_one k with e | e
 . rw [show k = 2 * (k / 2) by omega,h.1]; rfl
 . rw [show k = 2 * (k / 2) + 1 by omega,h.2]; rfl
theorem CdR.map {w w':World} {qs:List CV} {l:List Cond} (h:CdR w qs l) (hk:∀ v L,Q0g w 0 3 (.int .i64) v L -> Q0g w' 0 3 (.int .i64) v L):CdR w' qs l:=⟨h.1,fun k hl=>⟨(h.2 k hl).1,(h.2 k hl).2.1,hk _ _ (h.2 k hl).2.2⟩⟩
theorem CdR.add {w:World} {qs:List CV} {l:List Cond} {p r:CV} {c d:Cond} (h:CdR w qs l) (h1:p.td = c.tide /\ p.op = c.opn /\ Q0g w 0 3 (.int .i64) p.a c.inflow) (h2:r.td = d.tide /\ r.op = d.opn /\ Q0g w 0 3 (.int .i64) r.a d.inflow):CdR w (qs ++ [p,r]) (l ++ [c,d]):=by
 refine ⟨by simp [h.1],fun k hk=>?_⟩
 rcases Nat.lt_or_ge k qs.length with hl | hl
 . rw [List.getElem_append_left hl,Y3f (by rw [<- h.1]; exact hl)]; exact h.2 k hl
 . obtain ⟨j,rfl⟩:∃ j,k = qs.length + j:=⟨k - qs.length,by omega⟩
   have hj:j < 2:=by simp at hk; omega
   have hcd:cd (l ++ [c,d]) (qs.length + j) = cd [c,d] j:=by rw [h.1,X7y]
   have hge:(qs ++ [p,r])[qs.length + j]'hk = [p,r][j]'(by simpa using hj):=by simp [List.getElem_append_right]
   rw [hcd,hge]
   match j,hj with
   | 0,_=>exact h1
   | 1,_=>exact h2
theorem CdR.conds {w:World} {base:Nat} {v:Value} {qs:List CV} {l:List Cond} (h:Q1r w base 49 3 Q7s v qs) (hr:CdR w qs l) (hl:qs.length <= 100000) (hs:∀ k,k < l.length -> (cd l k).inflow.length <= 1000):Q1v w v l:=by
 have e:∀ c,Row w v qs.length 3 c ↔ Row w v l.length 3 c:=fun c=>by rw [hr.1]
 have h0:Rows 3 (fun _ c (q:CV)=>c 0 = .int .i64 q.td /\ c 1 = .bool q.op /\ c 2 = q.a) w v qs :=
  Q1r.rows h (by omega) (fun _=>rfl) (fun p _=>⟨rfl,rfl,rfl⟩) (fun c c' p hc h=>⟨by rw [<- hc 0 (by omega)]; exact h.1,by rw [<- hc 1 (by omega)]; exact h.2.1,by rw [<- hc 2 (by omega)]; exact h.2.2⟩)
 obtain ⟨c,h1,h2⟩:=h0;refine ⟨c,(e c).1 h1,fun j hj=>?_⟩;have hq:j < qs.length:=by rw [hr.1]; exact hj
 obtain ⟨e0,e1,e2⟩:=h2 j hq;obtain ⟨f0,f1,f2⟩:=hr.2 j hq;have hd:cd l j = l[j]:=by unfold cd; simp [hj]
 have hsj:=hs j hj;rw [hd] at f0 f1 f2 hsj;exact ⟨by rw [e0,f0],by rw [e1,f1],by rw [e2]; exact f2.ints (by omega)⟩
end Go.Tw
namespace Go.Proofs
open Go.RowKit Go.Tw Go.Flow Go.Ba
attribute [local go_sem] Oper.semAt_some
theorem Tryz.Z3w:(Tryz.prog.info? 49).map (fun i=>(i.zero,i.size,i.bytes)) = some (some (.agg #[.int .i64 0,.bool false,.slice none 0 0]),3,40):=by kernel_rfl
theorem X8n (w:World) (i:Int) (b:Bool) (a:Option Addr) (n c:Nat):(Instr.build 49 #[(0,.int .i64 i),(1,.bool b),(2,.slice a n c)]).run Tryz.prog w = .ok (.agg #[.int .i64 i,.bool b,.slice a n c]) w:=by kernel_rfl
theorem X7o (w:World) (b:Bool) (a:Option Addr) (n c:Nat):(Instr.build 49 #[(1,.bool b),(2,.slice a n c)]).run Tryz.prog w = .ok (.agg #[.int .i64 0,.bool b,.slice a n c]) w:=by kernel_rfl
theorem Y2e {w:World} {o:Oper} {a:Act} (T:TypeId) (x y z:Operand) (hop:o.op = .build T #[(0,x),(1,y),(2,z)]) {u1 u2 u3 r:Value} (h1:a.eval x = u1) (h2:a.eval y = u2) (h3:a.eval z = u3) (hr:∀ w,(Instr.build T #[(0,u1),(1,u2),(2,u3)]).run Tryz.prog w = .ok r w):(execOp a.eval o).run Tryz.prog w = .ok (.value r) w:=by
 unfold execOp;simp only [hop,List.map_toArray,List.map_cons,List.map_nil,h1,h2,h3,Sem.run_bind,hr,Result.andThen_ok,Sem.run_pure]
theorem Y2w {w:World} {o:Oper} {a:Act} (T:TypeId) (x y:Operand) (hop:o.op = .build T #[(1,x),(2,y)]) {u1 u2 r:Value} (h1:a.eval x = u1) (h2:a.eval y = u2) (hr:∀ w,(Instr.build T #[(1,u1),(2,u2)]).run Tryz.prog w = .ok r w):(execOp a.eval o).run Tryz.prog w = .ok (.value r) w:=by
 unfold execOp;simp only [hop,List.map_toArray,List.map_cons,List.map_nil,h1,h2,Sem.run_bind,hr,Result.andThen_ok,Sem.run_pure]
theorem Y8j (w:World) (i j:Int) (b c:Bool) (a d:Option Addr) (n m p q:Nat):(Instr.buildSlice 45 2 #[(0,.agg #[.int .i64 i,.bool b,.slice a n p]),(1,.agg #[.int .i64 j,.bool c,.slice d m q])]).run Tryz.prog w = .ok (.slice (some ⟨w.heap.size,0,none⟩) 2 2) (w.alloc (.cells #[.int .i64 i,.bool b,.slice a n p,.int .i64 j,.bool c,.slice d m q] 49)):=by kernel_rfl
theorem Y7y {P:Program} {K:Value -> World -> Prop} {o:Oper} {A:Act} {w w':World} (t:TypeId) (n:Nat) (x y:Operand) (ho:o.op = .buildSlice t n #[(0,x),(1,y)]) {u v r:Value} (hx:A.eval x = u) (hy:A.eval y = v) (hr:(Instr.buildSlice t n #[(0,u),(1,v)]).run P w = .ok r w') (h:K r w'):gives P K ((execOp A.eval o).run P w):=by
 unfold execOp;simp only [ho,List.map_toArray,List.map_cons,List.map_nil,hx,hy,Sem.run_bind,hr,Result.andThen_ok,Sem.run_pure];exact h
theorem Q8w (w:World) (vc:Value) (nm:ByteArray) (wt:Int) (X Y Z:Option Addr) (nx capx capy capz:Nat) (lo li:List Int) (cl:List Bool) (ho:Q0b w (.slice Y lo.length capy) lo) (hi:Q0b w (.slice Z li.length capz) li) (hc:Q2c w vc cl) (hlo:cl.length <= lo.length) (hli:cl.length <= li.length) (h48:cl.length <= 48) :
    Calls Tryz.prog 20 #[.agg #[.string nm,.int .i64 wt,.slice X nx capx,.slice Y lo.length capy,.slice Z li.length capz],vc] w fun e w'=>∃ r,e = .returned r /\ Q1v w' r (Q0z lo li cl cl.length) /\ Ext w w':=by
 obtain ⟨i0,hi0,hz0,hz1,hz2⟩:=info_parts Tryz.Z3w;obtain ⟨C,capc,rfl,-,-,hcc⟩:=hc.opened;obtain ⟨_,_,e1,-,-,hyc⟩:=ho.opened;injection e1 with e1 _ e2; subst e1 e2;obtain ⟨_,_,e1,-,-,hzc⟩:=hi.opened;injection e1 with e1 _ e2; subst e1 e2;have HCC:=Lib.hid hcc;have HYC:=Lib.hid hyc;have HZC:=Lib.hid hzc;obtain ⟨n,hn⟩:∃ z,cl.length = z:=⟨_,rfl⟩;obtain ⟨no,hno⟩:∃ z,lo.length = z:=⟨_,rfl⟩;obtain ⟨ni,hni⟩:∃ z,li.length = z:=⟨_,rfl⟩;have HN:=Lib.hid hn;have HNO:Hid (n <= no /\ n <= ni /\ n <= 48 /\ lo.length = no /\ li.length = ni):=Lib.hid (by omega)
 rw [hn,hno,hni];clear ho hi hc hcc hyc hzc hlo hli h48 hn hno hni;go_enter Tryz.func20,Tryz.ntmps20;go_upto_region 1 with fail;obtain ⟨W,hWW,k0,HXW,eW⟩:=Q2q w 77 #[.string nm,.int .i64 wt,.slice X nx capx,.slice Y no capy,.slice Z ni capz];rw [hWW];clear hWW;obtain ⟨g,hg⟩:∃ z,w.heap.size = z:=⟨_,rfl⟩;rw [hg] at k0 eW ⊢;have K0:=Lib.hid k0;clear k0 eW hg;go_wp2
 go_loopw [5,10] (fun o iv wr=>∃ (k:Nat) (qs:List CV),k <= n /\ iv = .int .i64 k /\ Q1r wr W.heap.size 49 3 Q7s o qs /\ CdR wr qs (Q0z lo li cl k) /\ Ext W wr) (fun _ iv _=>n - (intOf iv).toNat)
 case atStart=>exact ⟨0,[],Nat.zero_le _,rfl,Q1r.nil _ _ _ _ _,⟨rfl,fun k hk=>absurd hk (Nat.not_lt_zero _)⟩,Ext.refl _⟩
 case round =>
  obtain ⟨k,qs,hk,rfl,hown,hcd,hx⟩:=hrel;have HOWN:=Lib.hid hown;have HCD:=Lib.hid hcd;have HXR:=Lib.hid hx
  by_cases hlt:k < n
  . have hkI:(k:Int) < (n:Int):=by omega
    have HK:=Lib.hid hlt;have HWK:Hid (wrap64 ((k:Int) + 1) = (k:Int) + 1):=Lib.hid (by have:=HNO.out; unfold wrap64; omega)
    have hko:(k:Int) < (no:Int):=by have:=HNO.out; omega
    have hki:(k:Int) < (ni:Int):=by have:=HNO.out; omega
    obtain ⟨bc,oc,rfl,-,d0⟩:=HCC.out k (by rw [HN.out]; exact hlt)
    obtain ⟨by_,oy,rfl,d1⟩:=HYC.out k (by have:=HNO.out; omega)
    obtain ⟨bz,oz,rfl,d2⟩:=HZC.out k (by have:=HNO.out; omega)
    replace d0:=(HXW.out.trans hx).cell d0;have D1:=Lib.hid ((HXW.out.trans hx).cell d1);have D2:=Lib.hid ((HXW.out.trans hx).cell d2);have KR:=Lib.hid (K0.out.ext hx);have htn:Q0z lo li cl (k + 1) = Q0z lo li cl k ++ [⟨ix lo k,!(bx cl k),[ix li k]⟩,⟨0,!(bx cl k),[0]⟩]:=rfl;obtain ⟨q,hq⟩:∃ z,bx cl k = z:=⟨_,rfl⟩;obtain ⟨io,hio⟩:∃ z,ix lo k = z:=⟨_,rfl⟩;obtain ⟨ii,hii⟩:∃ z,ix li k = z:=⟨_,rfl⟩;rw [hq] at d0 htn;rw [hio] at D1 htn;rw [hii] at D2 htn;have HTN:=Lib.hid htn;have hlen:qs.length <= 1000:=by have:=hcd.1; rw [Q2l] at this; have:=HNO.out; omega
    have hsz:W.heap.size <= wr.heap.size:=hx.size;have hdr:=(Ext.refl wr).drew;clear d1 d2 htn hq hio hii hown hcd hx hk hlt;go_upto_region 5 with fail;clear d0;refine Flow.Q4k [.p,.p,.w,.p,.p,.w,.p,.p,.p,.w,.p,.p,.w,.w,.p,.p,.p,.w,.p,.w,.last,.last] [0,1,2,3,4,5,6,7,8,9,10,11,12,13,14,15,16,17,18,19,20,21] [[],[],[1],[],[1,2,3],[1,2,3,4],[],[6],[],[8],[],[8,9,10],[8,9,10,11],[8,9,10,11,12],[1,2,3,4,5,6,7,8,9,10,11,12,13],[],[15],[],[15,16,17],[1,2,3,4,5,6,7,8,9,10,11,12,13,14,15,16,17,18],[0,1,2,3,4,5,6,7,8,9,10,11,12,13,14,15,16,17,18,19],[0,1,2,3,4,5,6,7,8,9,10,11,12,13,14,15,16,17,18,19,20]] [20,21]
     [.c 0 (u5),.c 1 (.pointer (some ⟨g,3,none⟩)),.c 2 (.slice (some ⟨by_,oy,none⟩) no capy),.c 3 (.int .i64 k),.c 4 (.pointer (some ⟨by_,oy + k,none⟩)),.c 5 (.int .i64 io),.c 6 (.bool q),.c 7 (.bool (!q)),.c 8 (.pointer (some ⟨g,4,none⟩)),.c 9 (.slice (some ⟨bz,oz,none⟩) ni capz),.c 10 (.int .i64 k),.c 11 (.pointer (some ⟨bz,oz + k,none⟩)),.c 12 (.int .i64 ii),⟨fun v wz=>(fun v w'=>∃ g,v 13 = .slice (some ⟨g,0,none⟩) 1 1 /\ Blk w' g 3 #[.int .i64 ii]) v wz,by rintro v a b hx ⟨g,h1,h2⟩; exact ⟨g,h1,h2.ext hx⟩⟩,⟨fun v wz=>(fun v w'=>v 14 = .agg #[.int .i64 io,.bool (!q),v 13]) v wz,by intro _ _ _ _ h; exact h⟩,.c 15 (.bool q),.c 16 (.bool (!q)),⟨fun v wz=>(fun v w'=>∃ g,v 17 = .slice (some ⟨g,0,none⟩) 1 1 /\ Blk w' g 3 #[.int .i64 0]) v wz,by rintro v a b hx ⟨g,h1,h2⟩; exact ⟨g,h1,h2.ext hx⟩⟩,⟨fun v wz=>(fun v w'=>v 18 = .agg #[.int .i64 0,.bool (!q),v 17]) v wz,by intro _ _ _ _ h; exact h⟩,⟨fun v wz=>(fun v w'=>∃ g,v 19 = .slice (some ⟨g,0,none⟩) 2 2 /\ Blk w' g 49 (Q7s ⟨io,!q,v 13⟩ ++ Q7s ⟨0,!q,v 17⟩).toArray) v wz,by rintro v a b hx ⟨g,h1,h2⟩; exact ⟨g,h1,h2.ext hx⟩⟩,.none,.none]
     [fun v w1 w'=>Q1r w' W.heap.size 49 3 Q7s (v 20) (qs ++ [⟨io,!q,v 13⟩,⟨0,!q,v 17⟩]) /\ w1.grownBy w' u5.ownBlock,fun v w1 w'=>v 21 = v 20 /\ Q1r w' W.heap.size 49 3 Q7s (v 20) (qs ++ [⟨io,!q,v 13⟩,⟨0,!q,v 17⟩]) /\ w1.grownBy w' u5.ownBlock] (by kernel_rfl) rfl (by kernel_rfl) ⟨?g0,?g1,?g2,?g3,?g4,?g5,?g6,?g7,?g8,?g9,?g10,?g11,?g12,?g13,?g14,?g15,?g16,?g17,?g18,?g19,?g20,?g21,trivial⟩ ?post
    case g0 | g1 | g3 | g6 | g8 | g10 | g15=>
     intro v w1 hx;intro bb hbb;subst hbb;refine ⟨_,fun w=>?_,rfl⟩;go_simp
    case g2 | g9=>
     intro v w1 hx;(repeat intro (zq:v _ = _));intro bb hbb;subst hbb;have n0:w1.cell? ⟨g,3,none⟩ = some (.slice (some ⟨by_,oy,none⟩) no capy):=(KR.out.ext (hdr.trans hx)).cell 3;have n1:w1.cell? ⟨g,4,none⟩ = some (.slice (some ⟨bz,oz,none⟩) ni capz):=(KR.out.ext (hdr.trans hx)).cell 4;intro K hK;go_simp;exact hK _ _ (Ext.refl _) rfl
    case g4=>
     intro v w1 hx;(repeat intro (zq:v _ = _));intro bb hbb;subst hbb;have hkI2:=hko;refine ⟨_,fun w=>?_,rfl⟩;go_simp
    case g5=>
     intro v w1 hx;(repeat intro (zq:v _ = _));intro bb hbb;subst hbb;have n0:=(hdr.trans hx).cell D1.out;intro K hK;go_simp;exact hK _ _ (Ext.refl _) rfl
    case g7 | g16=>
     intro v w1 hx;(repeat intro (zq:v _ = _));intro bb hbb;subst hbb;refine ⟨_,fun w=>?_,rfl⟩;go_simp
    case g11=>
     intro v w1 hx;(repeat intro (zq:v _ = _));intro bb hbb;subst hbb;have hkI2:=hki;refine ⟨_,fun w=>?_,rfl⟩;go_simp
    case g12=>
     intro v w1 hx;(repeat intro (zq:v _ = _));intro bb hbb;subst hbb;have n0:=(hdr.trans hx).cell D2.out;intro K hK;go_simp;exact hK _ _ (Ext.refl _) rfl
    case g13=>
     intro v w1 hx;(repeat intro (zq:v _ = _));intro bb hbb;subst hbb;intro K hK;go_simp;exact hK _ _ (Ext.box _ _) ⟨_,rfl,Blk.made _ _ _⟩
    case g14=>
     intro v w1 hx (q1:v 1 = _) (q2:v 2 = _) (q3:v 3 = _) (q4:v 4 = _) (q5:v 5 = _) (q6:v 6 = _) (q7:v 7 = _) (q8:v 8 = _) (q9:v 9 = _) (q10:v 10 = _) (q11:v 11 = _) (q12:v 12 = _) (q13:(fun v w'=>∃ g,v 13 = .slice (some ⟨g,0,none⟩) 1 1 /\ Blk w' g 3 #[.int .i64 ii]) v w1);intro bb hbb;obtain ⟨g3,e3,_⟩:=q13;have o1:bb.eval (.tmp 20) = .int .i64 io:=by rw [hbb]; dsimp only; (try simp (discharger:=decide) only [eval_put_ne]); rw [Q0a (by simp only [size_put]; exact (by decide:20 < 38))]; exact q5
     have o2:bb.eval (.tmp 22) = .bool (!q):=by rw [hbb]; dsimp only; (try simp (discharger:=decide) only [eval_put_ne]); rw [Q0a (by simp only [size_put]; exact (by decide:22 < 38))]; exact q7
     have o3:bb.eval (.tmp 28) = v 13:=by rw [hbb]; dsimp only; (try simp (discharger:=decide) only [eval_put_ne]); rw [Q0a (by simp only [size_put]; exact (by decide:28 < 38))]
     rw [e3] at o3;exact ⟨_,fun w=>Y2e _ (.tmp 20) (.tmp 22) (.tmp 28) rfl o1 o2 o3 (fun w=>X8n w _ _ _ _ _),by show Value.agg #[.int .i64 io,.bool (!q),.slice (some ⟨g3,0,none⟩) 1 1] = Value.agg #[.int .i64 io,.bool (!q),v 13]; rw [e3]⟩
    case g17=>
     intro v w1 hx;intro bb hbb;subst hbb;intro K hK;go_simp;exact hK _ _ (Ext.box _ _) ⟨_,rfl,Blk.made _ _ _⟩
    case g18=>
     intro v w1 hx (q15:v 15 = _) (q16:v 16 = _) (q17:(fun v w'=>∃ g,v 17 = .slice (some ⟨g,0,none⟩) 1 1 /\ Blk w' g 3 #[.int .i64 0]) v w1);intro bb hbb;obtain ⟨g3,e3,_⟩:=q17;have o2:bb.eval (.tmp 31) = .bool (!q):=by rw [hbb]; dsimp only; (try simp (discharger:=decide) only [eval_put_ne]); rw [Q0a (by simp only [size_put]; exact (by decide:31 < 38))]; exact q16
     have o3:bb.eval (.tmp 32) = v 17:=by rw [hbb]; dsimp only; (try simp (discharger:=decide) only [eval_put_ne]); rw [Q0a (by simp only [size_put]; exact (by decide:32 < 38))]
     rw [e3] at o3;exact ⟨_,fun w=>Y2w _ (.tmp 31) (.tmp 32) rfl o2 o3 (fun w=>X7o w _ _ _ _),by show Value.agg #[.int .i64 0,.bool (!q),.slice (some ⟨g3,0,none⟩) 1 1] = Value.agg #[.int .i64 0,.bool (!q),v 17]; rw [e3]⟩
    case g19=>
     intro v w1 hx (q1:v 1 = _) (q2:v 2 = _) (q3:v 3 = _) (q4:v 4 = _) (q5:v 5 = _) (q6:v 6 = _) (q7:v 7 = _) (q8:v 8 = _) (q9:v 9 = _) (q10:v 10 = _) (q11:v 11 = _) (q12:v 12 = _) (q13:(fun v w'=>∃ g,v 13 = .slice (some ⟨g,0,none⟩) 1 1 /\ Blk w' g 3 #[.int .i64 ii]) v w1) (q14:(fun v w'=>v 14 = .agg #[.int .i64 io,.bool (!q),v 13]) v w1) (q15:v 15 = _) (q16:v 16 = _) (q17:(fun v w'=>∃ g,v 17 = .slice (some ⟨g,0,none⟩) 1 1 /\ Blk w' g 3 #[.int .i64 0]) v w1) (q18:(fun v w'=>v 18 = .agg #[.int .i64 0,.bool (!q),v 17]) v w1);intro bb hbb;intro K hK;obtain ⟨g3,e3,_⟩:=q13;obtain ⟨g4,e4,_⟩:=q17;have o1:bb.eval (.tmp 29) = .agg #[.int .i64 io,.bool (!q),v 13]:=by rw [hbb]; dsimp only; (try simp (discharger:=decide) only [eval_put_ne]); rw [Q0a (by simp only [size_put]; exact (by decide:29 < 38))]; exact q14
     have o2:bb.eval (.tmp 33) = .agg #[.int .i64 0,.bool (!q),v 17]:=by rw [hbb]; dsimp only; (try simp (discharger:=decide) only [eval_put_ne]); rw [Q0a (by simp only [size_put]; exact (by decide:33 < 38))]; exact q18
     rw [e3] at o1;rw [e4] at o2;have hbl:Blk (w1.alloc (.cells #[.int .i64 io,.bool (!q),.slice (some ⟨g3,0,none⟩) 1 1,.int .i64 0,.bool (!q),.slice (some ⟨g4,0,none⟩) 1 1] 49)) w1.heap.size 49 (Q7s ⟨io,!q,v 13⟩ ++ Q7s ⟨0,!q,v 17⟩).toArray:=by rw [e3,e4]; exact Blk.made _ _ _
     exact Y7y 45 2 (.tmp 29) (.tmp 33) rfl o1 o2 (Y8j w1 _ _ _ _ _ _ _ _ _ _) (hK _ _ (Ext.box _ _) ⟨_,rfl,hbl⟩)
    case g20=>
     intro v w1 hx (q0:v 0 = _) (q1:v 1 = _) (q2:v 2 = _) (q3:v 3 = _) (q4:v 4 = _) (q5:v 5 = _) (q6:v 6 = _) (q7:v 7 = _) (q8:v 8 = _) (q9:v 9 = _) (q10:v 10 = _) (q11:v 11 = _) (q12:v 12 = _) (q13:(fun v w'=>∃ g,v 13 = .slice (some ⟨g,0,none⟩) 1 1 /\ Blk w' g 3 #[.int .i64 ii]) v w1) _ (q15:v 15 = _) (q16:v 16 = _) (q17:(fun v w'=>∃ g,v 17 = .slice (some ⟨g,0,none⟩) 1 1 /\ Blk w' g 3 #[.int .i64 0]) v w1) _ (q19:(fun v w'=>∃ g,v 19 = .slice (some ⟨g,0,none⟩) 2 2 /\ Blk w' g 49 (Q7s ⟨io,!q,v 13⟩ ++ Q7s ⟨0,!q,v 17⟩).toArray) v w1);intro wl hT;obtain rfl:wl = w1:=hT;intro bb hbb;intro K hK;obtain ⟨g,hg10,hb10⟩:=q19;obtain ⟨g3,e3,_⟩:=q13;obtain ⟨g4,e4,_⟩:=q17;have o1:bb.eval (.tmp 15) = u5:=by rw [hbb]; dsimp only; (try simp (discharger:=decide) only [eval_put_ne]); rw [Q0a (by simp only [size_put]; exact (by decide:15 < 38))]; exact q0
     have o2:bb.eval (.tmp 34) = .slice (some ⟨g,0,none⟩) 2 2:=by rw [hbb]; dsimp only; (try simp (discharger:=decide) only [eval_put_ne]); rw [Q0a (by simp only [size_put]; exact (by decide:34 < 38))]; exact hg10
     have hxx:=hdr.trans hx;exact X5s _ _ 45 rfl W.heap.size 49 i0 (.agg #[.int .i64 0,.bool false,.slice none 0 0]) 3 40 Tryz.underlying45 hi0 hz0 hz1 hz2 rfl (by decide) Q7s (fun _=>rfl) u5 qs [⟨io,!q,v 13⟩,⟨0,!q,v 17⟩] o1 (HOWN.out.below hxx) (some ⟨g,0,none⟩) 2 o2 (fun _=>⟨_,rfl,fun j u hu=>X2w hb10 j u (by simpa using hu)⟩) (by rw [e3,e4]; intro u hu; simp [Q7s] at hu; rcases hu with rfl | rfl | rfl | rfl | rfl | rfl <;> rfl) (by simp; omega) (by decide) (by have:=hxx.size; omega) (fun v' w' h1 h2=>hK _ _ ⟨h1,h2⟩)
    case g21=>
     intro v w1 hx (q0:v 0 = _) (q1:v 1 = _) (q2:v 2 = _) (q3:v 3 = _) (q4:v 4 = _) (q5:v 5 = _) (q6:v 6 = _) (q7:v 7 = _) (q8:v 8 = _) (q9:v 9 = _) (q10:v 10 = _) (q11:v 11 = _) (q12:v 12 = _) _ _ (q15:v 15 = _) (q16:v 16 = _) _ _ _;intro wl hT;replace hT:(fun v w1 w'=>Q1r w' W.heap.size 49 3 Q7s (v 20) (qs ++ [⟨io,!q,v 13⟩,⟨0,!q,v 17⟩]) /\ w1.grownBy w' u5.ownBlock) v w1 wl:=hT;intro bb hbb;intro K hK;obtain ⟨hT0,hT1⟩:=hT;have o1:bb.eval (.tmp 35) = v 20:=by rw [hbb]; dsimp only; (try simp (discharger:=decide) only [eval_put_ne]); rw [Q0a (by simp only [size_put]; exact (by decide:35 < 38))]
     exact Q6j (.tmp 35) rfl o1 (hK _ _ ⟨rfl,hT0,hT1⟩)
    case post =>
     intro v w1 hx;(iterate 13 intro (zq:v _ = _));intro (q13:(fun v w'=>∃ g,v 13 = .slice (some ⟨g,0,none⟩) 1 1 /\ Blk w' g 3 #[.int .i64 ii]) v w1) (q14:(fun v w'=>v 14 = .agg #[.int .i64 io,.bool (!q),v 13]) v w1);(iterate 2 intro (zq:v _ = _));intro (q17:(fun v w'=>∃ g,v 17 = .slice (some ⟨g,0,none⟩) 1 1 /\ Blk w' g 3 #[.int .i64 0]) v w1) (q18:(fun v w'=>v 18 = .agg #[.int .i64 0,.bool (!q),v 17]) v w1) (q19:(fun v w'=>∃ g,v 19 = .slice (some ⟨g,0,none⟩) 2 2 /\ Blk w' g 49 (Q7s ⟨io,!q,v 13⟩ ++ Q7s ⟨0,!q,v 17⟩).toArray) v w1);intro w2 hE;replace hE:(fun v w1 w'=>v 21 = v 20 /\ Q1r w' W.heap.size 49 3 Q7s (v 20) (qs ++ [⟨io,!q,v 13⟩,⟨0,!q,v 17⟩]) /\ w1.grownBy w' u5.ownBlock) v w1 w2:=hE;simp only [Flow.acts,Act.put];go_simp;obtain ⟨h21,hom,hgm⟩:=hE;obtain ⟨g3,e3,hb3⟩:=q13;obtain ⟨g4,e4,hb4⟩:=q17;have hxx:=hdr.trans hx;have howx:=HOWN.out.below hxx;have hx2:Ext W w2:=Below.grown (HXR.out.trans hxx) hgm (by have:=(HXR.out.trans hxx).size; omega) (fun j hj=>by have:=(howx.lt j hj).1; omega)
     have hkeep:∀ v L,Q0g w1 0 3 (.int .i64) v L -> Q0g w2 0 3 (.int .i64) v L:=fun v L h=>Q2k h howx (by decide) hgm
     have o13:Q0g w1 0 3 (.int .i64) (v 13) [ii]:=by rw [e3]; exact X4g (V:=[ii]) hb3 rfl (by decide)
     have o17:Q0g w1 0 3 (.int .i64) (v 17) [0]:=by rw [e4]; exact X4g (V:=[0]) hb4 rfl (by decide)
     have hcd2:=((HCD.out.map (fun v L h=>Q0g.below h hxx)).map hkeep).add (p:=⟨io,!q,v 13⟩) (r:=⟨0,!q,v 17⟩) (c:=⟨io,!q,[ii]⟩) (d:=⟨0,!q,[0]⟩) ⟨rfl,rfl,hkeep _ _ o13⟩ ⟨rfl,rfl,hkeep _ _ o17⟩;rw [<- HTN.out] at hcd2;have HCD2:=Lib.hid hcd2;have HOM:=Lib.hid hom;have HX2:=Lib.hid hx2;clear h21 hom hgm hb3 hb4 e3 e4 hxx howx hx2 hkeep o13 o17 hcd2 hx hdr q14 q18 q19;(repeat clear zq);go_wp2;go_roundw
     case rel=>exact ⟨k + 1,_,by have:=HK.out; omega,by (try rw [HWK.out]); go_num,HOM.out,HCD2.out,HX2.out⟩
     case measure=>have:=HK.out; (try rw [HWK.out]); simp [intOf]; omega
  . obtain rfl:k = n:=by omega
    have hkI:¬ (k:Int) < (k:Int):=by omega
    have HQL:Hid (qs.length <= 100000):=Lib.hid (by have:=hcd.1; rw [Q2l] at this; have:=HNO.out; omega)
    clear hown hcd hx;go_wp2;go_ret;exact ⟨_,rfl,CdR.conds HOWN.out HCD.out HQL.out (fun j hj=>by rw [Q2l] at hj; rw [Y7h _ _ _ _ _ hj]; decide),HXW.out.trans HXR.out⟩
end Go.Proofs
namespace Go.Proofs
open Go.Lib
def parts (c:UInt8):List UInt8 -> List (List UInt8)
 | []=>[[]]
 | b :: l=>if b = c then [] :: parts c l else match parts c l with
   | []=>[[b]]
   | x :: r=>(b :: x) :: r
end Go.Proofs
namespace Go.Proofs
open Go.RowKit Go.Tw Go.Flow
attribute [local go_sem] Oper.semAt_some
theorem X3k {s:Q0c} {p:List Rul} (h:Q2o s p = 0):Q1d s /\ Q0x s.hist p = 0:=by
 unfold Q2o at h
 by_cases he:s.err = 0
 . rw [if_neg (fun hn=>hn he)] at h; exact ⟨Q1d.of he,h⟩
 . rw [if_pos he] at h; exact absurd h he
def Y3m (s:Q0c) (p:List Rul):List Int:=if Q2o s p = 0 then Q2h s p else []
theorem Y7z (w:World):Q0b w (.slice none 0 0) []:=Go.Tw.Rows.nil _ _ _
theorem X5q (w:World) (x y:Value):(Instr.field 148 (.agg #[x,y]) 0).run Tryz.prog w = .ok x w:=by kernel_rfl
theorem X5n (w:World) (x y:Value):(Instr.field 148 (.agg #[x,y]) 1).run Tryz.prog w = .ok y w:=by kernel_rfl
attribute [local go_sem ↓] X5q X5n
theorem Y7s (w:World) (v u:Value) (s:Q0c) (p:List Rul) (hv:Q0o w v s) (hu:Q1q w u p) (hs:Q3z s) (hp:p.length <= 1000) :
    Calls Tryz.prog 43 #[v,u] w fun e w'=>∃ x,e = .returned (.tuple #[x,.int .i64 (Q2o s p)]) /\ Q0b w' x (Y3m s p) /\ Ext w w':=by
 obtain ⟨a,b,rfl,h2⟩:=hv;obtain ⟨rv,rfl,hr⟩:=hu;obtain ⟨A,capa,rfl,-,-,-⟩:=h2.ships.opened;obtain ⟨B,capb,rfl,-,-,-⟩:=h2.members.opened;obtain ⟨R,capr,rfl,-,-,-⟩:=hr.opened;have H2:=Lib.hid h2;have HR:=Lib.hid hr;have HS:=Lib.hid hs;clear h2 hr hs;go_enter Tryz.func43,Tryz.ntmps43;go_wp2_with fail;change Calls _ _ _ ((w.alloc (.cells #[.int .i64 s.limit,.slice A s.ships.length capa,.slice B s.members.length capb] 74)).alloc (.cells #[.slice R p.length capr] 64)) _;obtain ⟨W,hWW,k0,k1,HXW,eW⟩:=Q5t w 74 #[.int .i64 s.limit,.slice A s.ships.length capa,.slice B s.members.length capb] 64 #[.slice R p.length capr];rw [hWW];clear hWW;have K0:=Lib.hid k0;have K1:=Lib.hid k1;clear k0 k1;refine (Q6i _ _ _ s p ⟨_,_,rfl,H2.out.ext HXW.out⟩ ⟨_,rfl,HR.out.ext HXW.out⟩ HS.out hp).mono ?_;rintro e w5 ⟨rfl,hx5⟩;have HX5:=Lib.hid (HXW.out.trans hx5);have HK0:=Lib.hid (K0.out.ext hx5);have HK1:=Lib.hid (K1.out.ext hx5)
 by_cases he:Q2o s p = 0
 . have HV:=Lib.hid (X3k he)
   have HF:Hid (Y3m s p = Q2h s p):=Lib.hid (if_pos he);have HE0:=Lib.hid he;have HPE:=Lib.hid he;have hne:(Q2o s p != 0) = false:=by simp [he]
   obtain ⟨E,hE⟩:∃ E,Q2o s p = E:=⟨_,rfl⟩;have HSE:Hid (∀ W,Ext w5 W -> Q0o W (.agg #[.int .i64 s.limit,.slice A s.ships.length capa,.slice B s.members.length capb]) s):=Lib.hid (fun W hW=>⟨_,_,rfl,H2.out.ext (HX5.out.trans hW)⟩);have HPO:Hid (∀ W,Ext w5 W -> Q1q W (.agg #[.slice R p.length capr]) p):=Lib.hid (fun W hW=>⟨_,rfl,HR.out.ext (HX5.out.trans hW)⟩);rw [hE] at hne HE0 ⊢;rw [HE0.out];clear he hE hx5;have hdr:=(Ext.refl w5).drew;go_wp2;refine Flow.Q1p [.w,.w,.w,.w,.w,.p,.p] [0,1,2,3,4,5,6] [[],[],[],[1,2],[0,3],[0,1,2,3,4],[0,1,2,3,4,5]]
    [.c 0 (.agg #[.int .i64 s.limit,.slice A s.ships.length capa,.slice B s.members.length capb]),.c 1 (.agg #[.int .i64 s.limit,.slice A s.ships.length capa,.slice B s.members.length capb]),.c 2 (.agg #[.slice R p.length capr]),⟨fun v wz=>(fun v w'=>Q3f w' (v 3) (Q2n s p)) v wz,by intro v a b hx h; exact Q3f.ext h hx⟩,⟨fun v wz=>(fun v w'=>Q0b w' (v 4) (Q2h s p)) v wz,by intro v a b hx h; exact Q0b.ext h hx⟩,.is 5 (fun v=>v 4),.c 6 (.int .i64 0)]
    (by kernel_rfl) rfl (by kernel_rfl) ⟨?g0,?g1,?g2,?g3,?g4,?g5,?g6,trivial⟩ ?post
   case g0 | g1=>
    intro v w1 hx;intro bb hbb;intro K hK;have o1:bb.eval (.tmp 2) = .pointer (some ⟨w.heap.size,0,none⟩):=by rw [hbb]; dsimp only; (try simp (discharger:=decide) only [eval_put_ne]); rfl
    exact Q0s (.tmp 2) _ rfl Tryz.Z3e Tryz.Y8k o1 (HK0.out.ext (hdr.trans hx)) rfl (hK _ _ (Ext.refl _) rfl)
   case g2=>
    intro v w1 hx;intro bb hbb;intro K hK;have o1:bb.eval (.tmp 3) = .pointer (some ⟨w.heap.size + 1,0,none⟩):=by rw [hbb]; dsimp only; (try simp (discharger:=decide) only [eval_put_ne]); rfl
    exact Q0s (.tmp 3) _ rfl Tryz.Y1v Tryz.X7i o1 (HK1.out.ext (hdr.trans hx)) rfl (hK _ _ (Ext.refl _) rfl)
   case g3=>
    intro v w1 hx;(repeat intro (zq:v _ = _));intro bb hbb;subst hbb;intro K hK;go_simp;refine Q0d (Y0k w1 _ _ s p (HSE.out w1 (hdr.trans hx)) (HPO.out w1 (hdr.trans hx)) HV.out.1 HV.out.2) ?_;rintro e w2 ⟨x,rfl,h1,hx2⟩;exact ⟨_,rfl,hK _ _ hx2 h1⟩
   case g4=>
    intro v w1 hx (q0:v 0 = _) (q3:(fun v w'=>Q3f w' (v 3) (Q2n s p)) v w1);intro bb hbb;subst hbb;intro K hK;go_simp;refine Q0d (Y9x w1 _ _ s p (HSE.out w1 (hdr.trans hx)) q3 HV.out.1) ?_;rintro e w2 ⟨x,rfl,h1,hx2⟩;exact ⟨_,rfl,hK _ _ hx2 h1⟩
   case g5=>
    intro v w1 hx (q0:v 0 = _) (q1:v 1 = _) (q2:v 2 = _) _ _;intro bb hbb;subst hbb;refine ⟨_,fun w=>?_,rfl⟩;go_simp
   case g6=>
    intro v w1 hx (q0:v 0 = _) (q1:v 1 = _) (q2:v 2 = _) _ _ (q5:v 5 = v 4);intro bb hbb;subst hbb;refine ⟨_,fun w=>?_,rfl⟩;go_simp
   case post =>
    intro v w1 hx;(iterate 3 intro (zq:v _ = _));intro (q3:(fun v w'=>Q3f w' (v 3) (Q2n s p)) v w1) (q4:(fun v w'=>Q0b w' (v 4) (Q2h s p)) v w1) (q5:v 5 = v 4);(iterate 1 intro (zq:v _ = _));simp only [Flow.All,Flow.acts,Act.put];go_simp;have HXX:=Lib.hid (HX5.out.trans (hdr.trans hx));have HQ:Hid (Q0b w1 (v 4) (Q2h s p)):=Lib.hid q4;clear hx hdr q3 q4 q5;(repeat clear zq);go_wp2;go_ret2;exact ⟨v 4,by rw [HPE.out]; rfl,by rw [HF.out]; exact HQ.out,HXX.out⟩
 . have HF:Hid (Y3m s p = []):=Lib.hid (if_neg he)
   have hne:(Q2o s p != 0) = true:=by simp [he]
   obtain ⟨E,hE⟩:∃ E,Q2o s p = E:=⟨_,rfl⟩;have HPE:=Lib.hid hE;rw [hE] at hne ⊢;clear he hE hx5;go_wp2;go_ret2;exact ⟨_,by rw [HPE.out]; rfl,by rw [HF.out]; exact Y7z _,HX5.out⟩
end Go.Proofs
namespace Go.Proofs
open Go.RowKit Go.Tw Go.Flow
def Z1i (s:Q0c) (n:Int):Int:=Q0h [s.err,Q0t (X2o s n) 10]
theorem Y4t {s:Q0c} {n:Int} (h:Z1i s n = 0):Q1d s /\ 0 <= n /\ n < s.members.length:=by
 unfold Z1i Q0h at h
 by_cases he:s.err = 0
 . rw [if_pos he] at h
   refine ⟨Q1d.of he,?_⟩;unfold Q0h X2o Q0t at h
   by_cases h0:n < 0 <;> by_cases h1:(s.members.length:Int) <= n <;> simp [h0,h1] at h ⊢ <;> omega
 . rw [if_neg he] at h; exact absurd h he
end Go.Proofs
namespace Go.Proofs
open Go.RowKit Go.Tw Go.Flow
attribute [local go_sem] Oper.semAt_some
attribute [local go_sem ↓] X2e Q8p
theorem Y4w (w:World):Q2c w (.slice none 0 0) []:=Go.Tw.Rows.nil _ _ _
end Go.Proofs
namespace Go.Proofs
open Go.Tw
theorem Z1m {s:Q0c} {p:List Rul} {i:Nat} (hi:i < s.members.length):has (Q2h s p) i = (Q1z s i).keeps s.limit (Q0u p (Q1z s i).classes):=by
 rw [Bool.eq_iff_iff,Y8c];unfold Q2h
 constructor
 . intro h
   obtain ⟨j,hj,he⟩:=List.mem_map.1 h;have:j = i:=by have he:(j:Int) = (i:Int):=he; omega
   subst this;exact (List.mem_filter.1 hj).2
 . intro h
   exact List.mem_map.2 ⟨i,List.mem_filter.2 ⟨List.mem_range.2 hi,h⟩,rfl⟩
end Go.Proofs
namespace Go.Proofs
open Go.Tw
def Y6i (m:Mem) (cl:List Bool):Nat -> Int
 | 0=>0
 | t + 1=>if bx cl t then Y6i m cl t + ix m.inflow t else 0
def Q6o (m:Mem) (cl:List Bool) (t:Nat):Int:=if bx cl t then Y6i m cl t + ix m.inflow t else ix m.outside t
theorem Y4m (m:Mem) (cl:List Bool):∀ t,t <= cl.length -> m.Q2y cl = (List.range t).map (Q6o m cl) ++ m.Q3n t (Y6i m cl t) (cl.drop t)
 | 0,_=>rfl
 | t + 1,h=>by
   rw [Y4m m cl t (by omega),X6a m cl (by omega:t < cl.length),List.range_succ,List.map_append,List.append_assoc]
   congr 1
   cases hb:bx cl t with
   | false=>simp [Mem.stepT,Q6o,Y6i,hb]
   | true=>simp [Mem.stepT,Q6o,Y6i,hb]
theorem X7w {m:Mem} {cl:List Bool} {t:Nat} (ht:t < cl.length):ix (m.Q2y cl) t = Q6o m cl t:=by
 rw [Y4m m cl cl.length (Nat.le_refl _)];unfold ix;rw [List.getD_eq_getElem?_getD,List.getElem?_append_left (by simpa using ht)]
 simp [ht]
theorem Y2d {m:Mem} {cl:List Bool} (h:∀ k,k < cl.length -> 0 <= ix m.inflow k /\ ix m.inflow k <= 1024):∀ t,t <= cl.length -> 0 <= Y6i m cl t /\ Y6i m cl t <= 1024 * t
 | 0,_=>by simp [Y6i]
 | t + 1,ht=>by
   have ih:=Y2d h t (by omega)
   have hk:=h t (by omega)
   unfold Y6i
   split <;> omega
theorem Z0d {s:Q0c} {p:List Rul} {i:Nat} (hi:i < s.members.length):Z7e s.limit ((Q1z s i).Q2y (Q0u p (Q0f s.members i))) = has (Q2h s p) i:=by
 rw [Z1m hi]; rfl
end Go.Proofs
namespace Go.Tw
open Go.Ba Go.Proofs
theorem Y9t:Q4r.Q9j ⟨Q1y,-1,0,0,1⟩ = ⟨.barrier,-1,0,0,1⟩:=by
 have h:(Y6c Q1y).getD .barrier = .barrier:=by unfold Y6c; rw [if_pos rfl]; rfl
 unfold Q4r.Q9j;simp only [h]
theorem Z1k {lim u t:Int} (o:Bool) (i:List Int):Q2g (Q3k lim) ⟨t,o,i⟩ 0 [u] = if o then max (-u) (t - u) else 0:=by
 have e:(lk (Q3k lim).links 0).Q9j = ⟨.barrier,-1,0,0,1⟩:=Y9t;unfold Q2g;rw [e];have a:Q4x (Q3k lim).nodes 0 = 1:=rfl;unfold Lk.flow Lk.node;simp [a,ix]
theorem X4d {lim v x t:Int} (o:Bool) (hv:0 <= v + x /\ v + x <= 100000000) (ht:0 <= t /\ t <= 100000000):(Q3b (Q3k lim) [v] ⟨t,o,[x]⟩).1 = [if o then t else v + x] /\ (Q3b (Q3k lim) [v] ⟨t,o,[x]⟩).2.1 = true:=by
 have hin:Q5u [v] [x] 1 = ([v + x],true):=by
  have h0:(0:Int).toNat = 0:=rfl;simp [Q5u,Q4j,Q4y,ix,hv.2]
 have h:Q3b (Q3k lim) [v] ⟨t,o,[x]⟩ = Q3y (Q3k lim) ⟨t,o,[x]⟩ (Q5u [v] [x] 1).1 (Q5u [v] [x] 1).2 1:=rfl;rw [h,hin];have hs:(lk (Q3k lim).links 0).src = -1:=rfl;have hd:(lk (Q3k lim).links 0).dst = 0:=rfl;have h1:Q3y (Q3k lim) ⟨t,o,[x]⟩ [v + x] true 1 = (Q4j (Q4j [v + x] (-1) (-(Q2g (Q3k lim) ⟨t,o,[x]⟩ 0 [v + x]))) 0 (Q2g (Q3k lim) ⟨t,o,[x]⟩ 0 [v + x]),((true && Q4y (Q4j [v + x] (-1) (-(Q2g (Q3k lim) ⟨t,o,[x]⟩ 0 [v + x]))) (-1)) && Q4y (Q4j (Q4j [v + x] (-1) (-(Q2g (Q3k lim) ⟨t,o,[x]⟩ 0 [v + x]))) 0 (Q2g (Q3k lim) ⟨t,o,[x]⟩ 0 [v + x])) 0),[] ++ [Q2g (Q3k lim) ⟨t,o,[x]⟩ 0 [v + x]]):=rfl;rw [h1,Z1k];cases o with
 | false =>
   simp [Q4j,Q4y,ix];omega
 | true =>
   have e:max (-(v + x)) (t - (v + x)) = t - (v + x):=by omega
   simp only [if_true,e];simp [Q4j,Q4y,ix];omega
structure X9z (m:Mem) (n:Nat):Prop where
 i:∀ k,k < n -> 0 <= ix m.inflow k /\ ix m.inflow k <= 1024
 o:∀ k,k < n -> 0 <= ix m.outside k /\ ix m.outside k <= 1024
 n:n <= 48
theorem Q9i {lim:Int} {m:Mem} {cl:List Bool} (h:X9z m cl.length):∀ k,k <= cl.length -> Q3a (Q3k lim) [0] (Q0z m.outside m.inflow cl cl.length) (2 * k) = [Y6i m cl k]
 | 0,_=>rfl
 | k + 1,hk=>by
   have ih:=Q9i (lim:=lim) h k (by omega)
   obtain ⟨t0,t1⟩:=Q8t m.outside m.inflow cl cl.length k (by omega)
   have hb:=Y2d (fun j hj=>h.i j hj) k (by omega)
   have hi:=h.i k (by omega)
   have ho:=h.o k (by omega)
   have hn:=h.n;have e1:Q3a (Q3k lim) [0] (Q0z m.outside m.inflow cl cl.length) (2 * k + 1) = [Q6o m cl k]:=by
    show (Q3b (Q3k lim) (Q3a (Q3k lim) [0] _ (2 * k)) (cd _ (2 * k))).1 = _;rw [ih,t0,(X4d _ (by omega) (by omega)).1]
    unfold Q6o;cases bx cl k <;> rfl
   show (Q3b (Q3k lim) (Q3a (Q3k lim) [0] _ (2 * k + 1)) (cd _ (2 * k + 1))).1 = _;have hp:0 <= Q6o m cl k /\ Q6o m cl k <= 60000:=by unfold Q6o; split <;> omega
   rw [e1,t1,(X4d _ (by omega) (by decide)).1]
   unfold Y6i Q6o;cases bx cl k <;> simp
theorem Q7k {lim:Int} {m:Mem} {cl:List Bool} (h:X9z m cl.length) {k:Nat} (hk:k < cl.length):Q3a (Q3k lim) [0] (Q0z m.outside m.inflow cl cl.length) (2 * k + 1) = [Q6o m cl k] /\ Q2t (Q3k lim) [0] (Q0z m.outside m.inflow cl cl.length) (2 * k) = true /\ Q2t (Q3k lim) [0] (Q0z m.outside m.inflow cl cl.length) (2 * k + 1) = true:=by
 have ih:=Q9i (lim:=lim) h k (by omega)
 obtain ⟨t0,t1⟩:=Q8t m.outside m.inflow cl cl.length k hk;have hb:=Y2d (fun j hj=>h.i j hj) k (by omega)
 have hi:=h.i k hk;have ho:=h.o k hk;have hn:=h.n;have e1:Q3a (Q3k lim) [0] (Q0z m.outside m.inflow cl cl.length) (2 * k + 1) = [Q6o m cl k]:=by
  show (Q3b (Q3k lim) (Q3a (Q3k lim) [0] _ (2 * k)) (cd _ (2 * k))).1 = _;rw [ih,t0,(X4d _ (by omega) (by omega)).1]
  unfold Q6o;cases bx cl k <;> rfl
 have hp:0 <= Q6o m cl k /\ Q6o m cl k <= 60000:=by unfold Q6o; split <;> omega
 refine ⟨e1,?_,?_⟩
 . show (Q3b (Q3k lim) (Q3a (Q3k lim) [0] _ (2 * k)) (cd _ (2 * k))).2.1 = _
   rw [ih,t0,(X4d _ (by omega) (by omega)).2]
 . show (Q3b (Q3k lim) (Q3a (Q3k lim) [0] _ (2 * k + 1)) (cd _ (2 * k + 1))).2.1 = _
   rw [e1,t1,(X4d _ (by omega) (by decide)).2]
theorem X3i {lim:Int} {m:Mem} {cl:List Bool} (h:X9z m cl.length) (j:Nat) (hj:j < (Q0z m.outside m.inflow cl cl.length).length):Q2t (Q3k lim) [0] (Q0z m.outside m.inflow cl cl.length) j = true:=by
 rw [Q2l] at hj;have h2:=Q7k (lim:=lim) h (k:=j / 2) (by omega)
 rcases Nat.mod_two_eq_zero_or_one j with e | e
 . rw [show j = 2 * (j / 2) by omega]; exact h2.2.1
 . rw [show j = 2 * (j / 2) + 1 by omega]; exact h2.2.2
theorem X1l {lim:Int} {m:Mem} {cl:List Bool} (h:X9z m cl.length):Q5i (Q3k lim) (Q0z m.outside m.inflow cl cl.length):=by
 have key:∀ k,k < (Q0z m.outside m.inflow cl cl.length).length -> ∃ t o x,cd (Q0z m.outside m.inflow cl cl.length) k = ⟨t,o,[x]⟩ /\ (0 <= t /\ t <= 1024) /\ 0 <= x /\ x <= 1024:=fun k hk=>by
  rw [Q2l] at hk;obtain ⟨t0,t1⟩:=Q8t m.outside m.inflow cl cl.length (k / 2) (by omega)
  rcases Nat.mod_two_eq_zero_or_one k with e | e
  . rw [show k = 2 * (k / 2) by omega]; exact ⟨_,_,_,t0,h.o _ (by omega),h.i _ (by omega)⟩
  . rw [show k = 2 * (k / 2) + 1 by omega]; exact ⟨_,_,_,t1,by omega,by omega,by omega⟩
 refine ⟨fun k hk=>?_,fun k hk j=>?_,fun k hk=>?_⟩
 . obtain ⟨t,o,x,e,-,-⟩:=key k hk
   rw [e]; rfl
 . obtain ⟨t,o,x,e,-,hx⟩:=key k hk
   rw [e];cases j with
   | zero=>show 0 <= x /\ x <= 100000; omega
   | succ j=>rw [Y6r (V:=[x]) (by simp)]; omega
 . obtain ⟨t,o,x,e,ht,-⟩:=key k hk
   rw [e]; show -1024 <= t /\ t <= 1024; omega
theorem Y2g {lim v:Int}:Q8k (Q3k lim) [v] 1 = [] ↔ v <= lim:=by
 have e:Q8k (Q3k lim) [v] 1 = if Z2f (Q3k lim) [v] 0 = true then [0] else []:=by
  rw [show (1:Nat) = 0 + 1 from rfl,X6s]; rfl
 have a:Q4x (Q3k lim).nodes 0 = 1:=rfl;have b:Q9m (Q3k lim).nodes 0 = lim:=rfl;have c:Z2f (Q3k lim) [v] 0 = decide (lim < v):=by unfold Z2f; rw [a,b]; simp [ix]
 rw [e,c]
 by_cases h:lim < v
 . simp [h]
 . simp [h]; omega
theorem Z1h {lim:Int} (hl:0 <= lim) {m:Mem} {cl:List Bool} (h:X9z m cl.length):(∀ k,k < (Q0z m.outside m.inflow cl cl.length).length -> X2q (Q3k lim) [0] (Q0z m.outside m.inflow cl cl.length) k = []) ↔ ∀ k,k < cl.length -> Q6o m cl k <= lim:=by
 rw [Q2l]
 constructor
 . intro hd k hk
   have:=hd (2 * k) (by omega)
   unfold X2q at this;rw [(Q7k h hk).1] at this;exact Y2g.1 this
 . intro hp k hk
   unfold X2q
   rcases Nat.mod_two_eq_zero_or_one k with e | e
   . rw [show k + 1 = 2 * (k / 2) + 1 by omega,(Q7k h (by omega)).1]
     exact Y2g.2 (hp _ (by omega))
   . rw [show k + 1 = 2 * (k / 2 + 1) by omega,Q9i h _ (by omega)]
     refine Y2g.2 ?_;have:=hp (k / 2) (by omega)
     unfold Q6o at this;unfold Y6i
     split
     . rename_i e2; rw [if_pos e2] at this; exact this
     . exact hl
end Go.Tw
namespace Go.Proofs
open Go.RowKit Go.Tw Go.Flow
attribute [local go_sem] Oper.semAt_some
theorem Q7w (w:World) (v:Value) (s:Q0c) (hv:Q0o w v s) (hs:Q3z s) :
    Calls Tryz.prog 18 #[v] w fun e w'=>∃ u,e = .returned u /\ Q0o w' u s /\ Ext w w':=by
 obtain ⟨l0,li,lz0,lz1,lz2⟩:=info_parts Tryz.Z4t;obtain ⟨j0,hj,jz0,jz1,jz2⟩:=info_parts Tryz.info3;obtain ⟨a,b,rfl,h2⟩:=hv;obtain ⟨A,capa,rfl,-,-,-⟩:=h2.ships.opened;obtain ⟨B,capb,rfl,-,-,hc⟩:=h2.members.opened;have H2:=Lib.hid h2;have HC:=Lib.hid hc;have HS:=Lib.hid hs;have hT7:=hs.ships;have hn9:=hs.members;obtain ⟨n,hn⟩:∃ n,s.members.length = n:=⟨_,rfl⟩;have HN:=Lib.hid hn;obtain ⟨T,hT⟩:∃ n,s.ships.length = n:=⟨_,rfl⟩;have HT:=Lib.hid hT;obtain ⟨lim,hlim⟩:∃ n,s.limit = n:=⟨_,rfl⟩;have HLIM:=Lib.hid hlim;have hi2:=h2.ships;rw [hT] at hi2 hT7;rw [hn] at HC hn9;rw [hn,hT,hlim];have HSH:=Lib.hid hi2;clear h2 hc hs hn hT hlim hi2;go_enter Tryz.func18,Tryz.ntmps18;go_wp2_with fail;obtain ⟨W,hWW,k0,k1,HXW,eW⟩:=Q5t w 55 #[.int .i64 lim,.slice A T capa,.slice B n capb] 74 #[.int .i64 0,.slice none 0 0,.slice none 0 0];rw [hWW];clear hWW;obtain ⟨gs,hgs⟩:∃ x,w.heap.size = x:=⟨_,rfl⟩;have HGS:=Lib.hid hgs;rw [hgs] at k0 k1 eW ⊢;have K0:=Lib.hid k0;have K1:=Lib.hid k1;clear k0 k1 hgs;have hdr:=(Ext.refl W).drew;refine Flow.Q4k [.p,.w,.w,.p,.w,.w,.p,.w,.last] [0,1,2,3,4,5,6,7,8] [[],[0],[],[],[3],[2,3,4],[0,1,2,3,4,5],[],[0,1,2,3,4,5,6,7]] [8]
  [.c 0 (.pointer (some ⟨gs,0,none⟩)),.c 1 (.int .i64 lim),⟨fun v wz=>Q0p wz (v 2) W.heap.size 3,fun _ _ _ hx h=>h.ext hx⟩,.c 3 (.pointer (some ⟨gs,1,none⟩)),.c 4 (.slice A T capa),⟨fun v wz=>(fun v w'=>Q0g w' 0 3 (.int .i64) (v 5) s.ships) v wz,fun _ _ _ hx h=>Q0g.below h hx⟩,⟨fun v wz=>(fun v w'=>v 6 = .agg #[.int .i64 lim,v 5,.slice none 0 0]) v wz,by intro _ _ _ _ h; exact h⟩,⟨fun v wz=>(fun v w'=>∃ g,v 7 = .pointer (some ⟨g,0,none⟩) /\ Blk w' g 74 #[.int .i64 0,.slice none 0 0,.slice none 0 0] /\ W.heap.size <= g) v wz,by rintro v a b hx ⟨g,h1,h2,h3⟩; exact ⟨g,h1,h2.ext hx,h3⟩⟩,.none]
  [fun v w1 w'=>∃ g,v 7 = .pointer (some ⟨g,0,none⟩) /\ Blk w1 g 74 #[.int .i64 0,.slice none 0 0,.slice none 0 0] /\ Blk w' g 74 #[.int .i64 lim,v 5,.slice none 0 0] /\ (∀ n,n <= g -> Below n w1 w') /\ (∀ k,k ≠ g -> w'.heap[k]? = w1.heap[k]?) /\ W.heap.size <= g /\ Q0g w1 0 3 (.int .i64) (v 5) s.ships] (by kernel_rfl) rfl (by kernel_rfl) ⟨?g0,?g1,?g2,?g3,?g4,?g5,?g6,?g7,?g8,trivial⟩ ?post
 case g0 | g3=>
  intro v w1 hx;intro bb hbb;subst hbb;refine ⟨_,fun w=>?_,rfl⟩;go_simp
 case g1 | g4=>
  intro v w1 hx;(repeat intro (zq:v _ = _));intro bb hbb;subst hbb;have n0:w1.cell? ⟨gs,0,none⟩ = some (.int .i64 lim):=(K0.out.ext (hdr.trans hx)).cell 0;have n1:w1.cell? ⟨gs,1,none⟩ = some (.slice A T capa):=(K0.out.ext (hdr.trans hx)).cell 1;intro K hK;go_simp;exact hK _ _ (Ext.refl _) rfl
 case g2=>
  intro v w1 hx;intro bb hbb;subst hbb;intro K hK;go_simp;exact hK _ _ (Ext.box _ _) (Q0p.made _ _ _ (hdr.trans hx).size)
 case g5=>
  intro v w1 hx (q2:Q0p w1 (v 2) W.heap.size 3) (q3:v 3 = _) (q4:v 4 = _);intro bb hbb;intro K hK;have o1:bb.eval (.tmp 8) = v 2:=by rw [hbb]; dsimp only; (try simp (discharger:=decide) only [eval_put_ne]); rw [Q0a (by simp only [size_put]; exact (by decide:8 < 44))]
  have o2:bb.eval (.tmp 10) = .slice A T capa:=by rw [hbb]; dsimp only; (try simp (discharger:=decide) only [eval_put_ne]); rw [Q0a (by simp only [size_put]; exact (by decide:10 < 44))]; exact q4
  exact Q1f (.tmp 8) (.tmp 10) 44 rfl W.heap.size 3 j0 (.int .i64 0) 8 Tryz.underlying44 hj jz0 jz1 jz2 rfl (Value.int .i64) (v 2) (.slice A T capa) s.ships o1 q2 o2 (Q9r (HSH.out.ext (HXW.out.trans (hdr.trans hx)))) (fun _ _=>rfl) (by rw [HT.out]; omega) (by decide) (hdr.trans hx).size (fun v' w' hown hx2=>hK _ _ hx2 (Q0g.weaken hown (Nat.zero_le _)))
 case g6=>
  intro v w1 hx (q0:v 0 = _) (q1:v 1 = _) _ (q3:v 3 = _) (q4:v 4 = _) (q5:(fun v w'=>Q0g w' 0 3 (.int .i64) (v 5) s.ships) v w1);intro bb hbb;obtain ⟨s9,c9,e9,_⟩:=Q0g.shape q5;have o1:bb.eval (.tmp 7) = .int .i64 lim:=by rw [hbb]; dsimp only; (try simp (discharger:=decide) only [eval_put_ne]); rw [Q0a (by simp only [size_put]; exact (by decide:7 < 44))]; exact q1
  have o2:bb.eval (.tmp 11) = v 5:=by rw [hbb]; dsimp only; (try simp (discharger:=decide) only [eval_put_ne]); rw [Q0a (by simp only [size_put]; exact (by decide:11 < 44))]
  rw [e9] at o2;exact ⟨_,fun w=>X0g _ (.tmp 7) (.tmp 11) rfl o1 o2 (fun w=>X7j w _ _ _ _),by show Value.agg #[.int .i64 lim,.slice s9 s.ships.length c9,.slice none 0 0] = Value.agg #[.int .i64 lim,v 5,.slice none 0 0]; rw [e9]⟩
 case g7=>
  intro v w1 hx;intro bb hbb;subst hbb;intro K hK;go_simp;exact hK _ _ (Ext.box _ _) ⟨_,rfl,Blk.made _ _ _,(hdr.trans hx).size⟩
 case g8=>
  intro v w1 hx (q0:v 0 = _) (q1:v 1 = _) _ (q3:v 3 = _) (q4:v 4 = _) (q5:(fun v w'=>Q0g w' 0 3 (.int .i64) (v 5) s.ships) v w1) (q6:(fun v w'=>v 6 = .agg #[.int .i64 lim,v 5,.slice none 0 0]) v w1) (q7:(fun v w'=>∃ g,v 7 = .pointer (some ⟨g,0,none⟩) /\ Blk w' g 74 #[.int .i64 0,.slice none 0 0,.slice none 0 0] /\ W.heap.size <= g) v w1);intro wl hT;obtain rfl:wl = w1:=hT;intro bb hbb;intro K hK;obtain ⟨g,e13,h13,h13s⟩:=q7;obtain ⟨s9,c9,e9,_⟩:=Q0g.shape q5;have o1:bb.eval (.tmp 3) = .pointer (some ⟨g,0,none⟩):=by rw [hbb]; dsimp only; (try simp (discharger:=decide) only [eval_put_ne]); rw [Q0a (by simp only [size_put]; exact (by decide:3 < 44))]; exact e13
  have o2:bb.eval (.tmp 12) = .agg #[.int .i64 lim,v 5,.slice none 0 0]:=by rw [hbb]; dsimp only; (try simp (discharger:=decide) only [eval_put_ne]); rw [Q0a (by simp only [size_put]; exact (by decide:12 < 44))]; exact q6
  exact Q3x (.tmp 3) (.tmp 12) _ rfl Tryz.X3a o1 o2 h13 rfl rfl (by intro u hu; rw [e9] at hu; simp only [List.mem_cons,List.not_mem_nil,or_false] at hu; rcases hu with rfl | rfl | rfl <;> rfl) (fun vv w' hb hl ho=>hK _ _ ⟨g,e13,h13,hb,hl,ho,h13s,q5⟩)
 case post =>
  intro v w1 hx (q0:v 0 = _) (q1:v 1 = _) (q2:Q0p w1 (v 2) W.heap.size 3) (q3:v 3 = _) (q4:v 4 = _) (q5:(fun v w'=>Q0g w' 0 3 (.int .i64) (v 5) s.ships) v w1) (q6:(fun v w'=>v 6 = .agg #[.int .i64 lim,v 5,.slice none 0 0]) v w1) (q7:(fun v w'=>∃ g,v 7 = .pointer (some ⟨g,0,none⟩) /\ Blk w' g 74 #[.int .i64 0,.slice none 0 0,.slice none 0 0] /\ W.heap.size <= g) v w1);intro w2 hE;replace hE:(fun v w1 w'=>∃ g,v 7 = .pointer (some ⟨g,0,none⟩) /\ Blk w1 g 74 #[.int .i64 0,.slice none 0 0,.slice none 0 0] /\ Blk w' g 74 #[.int .i64 lim,v 5,.slice none 0 0] /\ (∀ n,n <= g -> Below n w1 w') /\ (∀ k,k ≠ g -> w'.heap[k]? = w1.heap[k]?) /\ W.heap.size <= g /\ Q0g w1 0 3 (.int .i64) (v 5) s.ships) v w1 w2:=hE;simp only [Flow.acts,Act.put];go_simp;obtain ⟨O,e6,hbO,hb9,hl9,ho9,hOs,hu4⟩:=hE;have hxx:=hdr.trans hx;have hx2:Ext W w2:=Below.trans hxx (hl9 _ hOs);have hus:=Q5o hu4 hbO (by decide) ho9
  obtain ⟨su,cu,eu,_⟩:=hus.shape;have HX2:=Lib.hid hx2;have HK0:=Lib.hid (K0.out.ext hx2);have HK1:=Lib.hid (K1.out.ext hx2);have HOW:Hid (W.heap.size <= O):=Lib.hid hOs;rw [e6];obtain ⟨uv,huv⟩:∃ z,v 5 = z:=⟨_,rfl⟩;rw [huv] at hb9 hus eu ⊢;have HU:=Lib.hid hus;have HBO:=Lib.hid hb9;have HEU:=Lib.hid eu;have hgO:gs + 1 + 1 <= O:=by omega
  have hOw:O + 1 <= w2.heap.size:=by have:=hb9.lt; omega
  have c2:w2.cell? ⟨gs,2,none⟩ = some (.slice B n capb):=HK0.out.cell 2;obtain ⟨wb,rfl⟩:∃ Z,Z = w2:=⟨_,rfl⟩;clear hx hdr hxx hx2 hus eu hbO hb9 hl9 ho9 hOs hu4 e6 huv eW q0 q1 q2 q3 q4 q5 q6 q7;go_wp2_with fail;clear c2
  go_loopw [16] (fun i wr=>∃ (k:Nat) (xv:Value) (qs:List MV),k <= n /\ i = .int .i64 k /\ Q1r wr wb.heap.size 90 5 Y1j xv qs /\ qs.map (·.1) = s.members.take k /\ Z6g wr qs /\ Q0g wr 0 3 (.int .i64) uv s.ships /\ Blk wr O 74 #[.int .i64 lim,uv,xv] /\ Off O wb wr) (fun i _=>n - (intOf i).toNat)
  case atStart=>exact ⟨0,_,[],Nat.zero_le _,rfl,Q1r.nil _ _ _ _ _,rfl,(fun q hq=>by simp at hq),HU.out,HBO.out,Off.refl _ _⟩
  case round =>
   obtain ⟨k,xv,qs,hk,rfl,hown,hqs,hmr,hu,hbo,hoff⟩:=hrel;have hqk:qs.length = k:=by rw [<- List.length_map (f:=(·.1)),hqs,List.length_take,HN.out]; omega
   have hxr:Ext w wr:=Below.trans HXW.out (Below.trans (HX2.out.mono (by have:=HGS.out; have:=HXW.out.size; omega)) (hoff.1.mono (by have:=HGS.out; omega)))
   have HQS:=Lib.hid hqs;have HMR:=Lib.hid hmr;have HUU:=Lib.hid hu;have HOWN:=Lib.hid hown;have HBK:=Lib.hid hbo;have HOF:=Lib.hid hoff
   by_cases hlt:k < n
   . have hkI:(k:Int) < n:=by omega
     obtain ⟨b1,off,x,y,z,rfl,hb,e0,e1,e2,e3,e4,hi1,hi2,hi3,hsn⟩:=HC.out k hlt;replace e0:=hxr.cell e0;replace e1:=hxr.cell e1;replace e2:=hxr.cell e2;replace e3:=hxr.cell e3;replace e4:=hxr.cell e4;obtain ⟨X,capx,rfl,-,-,-⟩:=hi1.opened;obtain ⟨Y,capy,rfl,-,-,-⟩:=hi2.opened;obtain ⟨Z,capz,rfl,-,-,-⟩:=hi3.opened;have hsh:=HS.out.each k (by rw [HN.out]; exact hlt)
     obtain ⟨-,hs1,hs2,hs3⟩:=hsh;have htk:s.members.take (k + 1) = s.members.take k ++ [⟨Q1g s.members k,Q1c s.members k,Q0f s.members k,Q0n s.members k,Q0v s.members k⟩]:=by
      rw [List.take_succ_eq_append_getElem (by rw [HN.out]; exact hlt)]
      unfold Q1g Q1c Q0f Q0n Q0v;rw [Q0r _ (by rw [HN.out]; exact hlt)]
     have HTK:=Lib.hid htk;have HI1:=Lib.hid (hi1.ext hxr);have HI2:=Lib.hid (hi2.ext hxr);have HI3:=Lib.hid (hi3.ext hxr);obtain ⟨nm,hnm⟩:∃ x,Q1g s.members k = x:=⟨_,rfl⟩;obtain ⟨wt,hwt⟩:∃ x,Q1c s.members k = x:=⟨_,rfl⟩;obtain ⟨l1,hl1⟩:∃ x,Q0f s.members k = x:=⟨_,rfl⟩;obtain ⟨l2,hl2⟩:∃ x,Q0n s.members k = x:=⟨_,rfl⟩;obtain ⟨l3,hl3⟩:∃ x,Q0v s.members k = x:=⟨_,rfl⟩;rw [hnm,hwt,hl1,hl2,hl3] at HTK;rw [hnm] at e0;rw [hwt] at e1;rw [hl1] at e2 HI1 hs1;rw [hl2] at e3 HI2 hs2;rw [hl3] at e4 HI3 hs3;obtain ⟨wq,rfl⟩:∃ Z,Z = wr:=⟨_,rfl⟩;clear hown hqs hmr hu hbo hoff hxr hi1 hi2 hi3 hsn htk hnm hwt hl1 hl2 hl3;go_wp2_with (with_reducible (refine Y7e ?_); refine Q2a rfl _ _ _ rfl Tryz.Y3k rfl rfl (Blk.made _ _ _) rfl rfl Z7j ?_; intro w3 hb3 hl3' ho3; refine halted ?_);obtain ⟨gm,hgm⟩:∃ x,wq.heap.size = x:=⟨_,rfl⟩;have hx3:Ext wq w3:=Below.trans (Ext.box wq _) (hl3' _ (Nat.le_refl _));rw [hgm] at hb3 ⊢;have hgO:O < gm:=by have:=HBK.out.lt; omega
     have KB:=Lib.hid hb3;have HX3:=Lib.hid hx3;have HBK3:=Lib.hid (HBK.out.ext hx3);have HOW3:=Lib.hid (HOWN.out.below hx3);have HMR3:Hid (Z6g w3 qs):=Lib.hid (fun q hq=>(HMR.out q hq).ext hx3);have HU3:=Lib.hid (HUU.out.below hx3);have HOF3:=Lib.hid (HOF.out.ext hx3 (by omega))
     have HJ1:=Lib.hid (HI1.out.ext hx3);have HJ2:=Lib.hid (HI2.out.ext hx3);have HJ3:=Lib.hid (HI3.out.ext hx3);have hdr:=(Ext.refl w3).drew;have hs3w:wb.heap.size <= w3.heap.size:=HOF3.out.2.1;clear hb3 hl3' ho3 hx3 hgm e0 e1 e2 e3 e4;unfold Q5f;go_wp2_with fail;refine Flow.Q4k [.p,.w,.p,.w,.p,.w,.w,.p,.w,.w,.w,.p,.w,.w,.w,.p,.w,.w,.p,.w,.last,.last,.last] [0,1,2,3,4,5,6,7,8,9,10,11,12,13,14,15,16,17,18,19,20,21,22] [[],[0],[],[2],[],[4],[],[],[7],[6,7,8],[],[],[11],[6,7,8,9,10,11,12],[],[],[15],[6,7,8,9,10,11,12,13,14,15,16],[2,3,4,5,6,7,8,9,10,11,12,13,14,15,16,17],[2,3,4,5,6,7,8,9,10,11,12,13,14,15,16,17,18],[0,1,2,3,4,5,6,7,8,9,10,11,12,13,14,15,16,17,18,19],[0,1,2,3,4,5,6,7,8,9,10,11,12,13,14,15,16,17,18,19,20],[0,1,2,3,4,5,6,7,8,9,10,11,12,13,14,15,16,17,18,19,20,21]] [20,21,22]
      [.c 0 (.pointer (some ⟨O,2,none⟩)),.c 1 (xv),.c 2 (.pointer (some ⟨gm,0,none⟩)),.c 3 (.string nm),.c 4 (.pointer (some ⟨gm,1,none⟩)),.c 5 (.int .i64 wt),⟨fun v wz=>Q0p wz (v 6) w3.heap.size 3,fun _ _ _ hx h=>h.ext hx⟩,.c 7 (.pointer (some ⟨gm,2,none⟩)),.c 8 (.slice X l1.length capx),⟨fun v wz=>(fun v w'=>Q0g w' 0 3 (.int .i64) (v 9) l1) v wz,fun _ _ _ hx h=>Q0g.below h hx⟩,⟨fun v wz=>Q0p wz (v 10) w3.heap.size 3,fun _ _ _ hx h=>h.ext hx⟩,.c 11 (.pointer (some ⟨gm,3,none⟩)),.c 12 (.slice Y l2.length capy),⟨fun v wz=>(fun v w'=>Q0g w' 0 3 (.int .i64) (v 13) l2) v wz,fun _ _ _ hx h=>Q0g.below h hx⟩,⟨fun v wz=>Q0p wz (v 14) w3.heap.size 3,fun _ _ _ hx h=>h.ext hx⟩,.c 15 (.pointer (some ⟨gm,4,none⟩)),.c 16 (.slice Z l3.length capz),⟨fun v wz=>(fun v w'=>Q0g w' 0 3 (.int .i64) (v 17) l3) v wz,fun _ _ _ hx h=>Q0g.below h hx⟩,⟨fun v wz=>(fun v w'=>v 18 = .agg #[.string nm,.int .i64 wt,v 9,v 13,v 17]) v wz,by intro _ _ _ _ h; exact h⟩,⟨fun v wz=>(fun v w'=>∃ g,v 19 = .slice (some ⟨g,0,none⟩) 1 1 /\ Blk w' g 90 (Y1j (⟨nm,wt,l1,l2,l3⟩,v 9,v 13,v 17)).toArray) v wz,by rintro v a b hx ⟨g,h1,h2⟩; exact ⟨g,h1,h2.ext hx⟩⟩,.none,.none,.none]
      [fun v w1 w'=>Q1r w' wb.heap.size 90 5 Y1j (v 20) (qs ++ [(⟨nm,wt,l1,l2,l3⟩,v 9,v 13,v 17)]) /\ w1.grownBy w' xv.ownBlock,fun v w1 w'=>v 21 = .pointer (some ⟨O,2,none⟩) /\ Q1r w' wb.heap.size 90 5 Y1j (v 20) (qs ++ [(⟨nm,wt,l1,l2,l3⟩,v 9,v 13,v 17)]) /\ w1.grownBy w' xv.ownBlock,fun v w1 w'=>∃ x wm,Q1r wm wb.heap.size 90 5 Y1j x (qs ++ [(⟨nm,wt,l1,l2,l3⟩,v 9,v 13,v 17)]) /\ w1.grownBy wm xv.ownBlock /\ w' = wm.setCell ⟨O,2,none⟩ x] (by kernel_rfl) rfl (by kernel_rfl) ⟨?g0,?g1,?g2,?g3,?g4,?g5,?g6,?g7,?g8,?g9,?g10,?g11,?g12,?g13,?g14,?g15,?g16,?g17,?g18,?g19,?g20,?g21,?g22,trivial⟩ ?post
     case g0 | g2 | g4 | g7 | g11 | g15=>
      intro v w1 hx;intro bb hbb;subst hbb;refine ⟨_,fun w=>?_,rfl⟩;go_simp
     case g1 | g3 | g5 | g8 | g12 | g16=>
      intro v w1 hx;(repeat intro (zq:v _ = _));intro bb hbb;subst hbb;have n0:w1.cell? ⟨O,2,none⟩ = some xv:=(HBK3.out.ext (hdr.trans hx)).cell 2;have n1:w1.cell? ⟨gm,0,none⟩ = some (.string nm):=(KB.out.ext (hdr.trans hx)).cell 0;have n2:w1.cell? ⟨gm,1,none⟩ = some (.int .i64 wt):=(KB.out.ext (hdr.trans hx)).cell 1;have n3:w1.cell? ⟨gm,2,none⟩ = some (.slice X l1.length capx):=(KB.out.ext (hdr.trans hx)).cell 2;have n4:w1.cell? ⟨gm,3,none⟩ = some (.slice Y l2.length capy):=(KB.out.ext (hdr.trans hx)).cell 3;have n5:w1.cell? ⟨gm,4,none⟩ = some (.slice Z l3.length capz):=(KB.out.ext (hdr.trans hx)).cell 4;intro K hK;go_simp;exact hK _ _ (Ext.refl _) rfl
     case g6 | g10 | g14=>
      intro v w1 hx;intro bb hbb;subst hbb;intro K hK;go_simp;exact hK _ _ (Ext.box _ _) (Q0p.made _ _ _ (hdr.trans hx).size)
     case g9=>
      intro v w1 hx (q6:Q0p w1 (v 6) w3.heap.size 3) (q7:v 7 = _) (q8:v 8 = _);intro bb hbb;intro K hK;have o1:bb.eval (.tmp 26) = v 6:=by rw [hbb]; dsimp only; (try simp (discharger:=decide) only [eval_put_ne]); rw [Q0a (by simp only [size_put]; exact (by decide:26 < 44))]
      have o2:bb.eval (.tmp 28) = .slice X l1.length capx:=by rw [hbb]; dsimp only; (try simp (discharger:=decide) only [eval_put_ne]); rw [Q0a (by simp only [size_put]; exact (by decide:28 < 44))]; exact q8
      exact Q1f (.tmp 26) (.tmp 28) 44 rfl w3.heap.size 3 j0 (.int .i64 0) 8 Tryz.underlying44 hj jz0 jz1 jz2 rfl (Value.int .i64) (v 6) (.slice X l1.length capx) l1 o1 q6 o2 (Q9r (HJ1.out.ext (hdr.trans hx))) (fun _ _=>rfl) (by omega) (by decide) (hdr.trans hx).size (fun v' w' hown hx2=>hK _ _ hx2 (Q0g.weaken hown (Nat.zero_le _)))
     case g13=>
      intro v w1 hx _ (q7:v 7 = _) (q8:v 8 = _) _ (q10:Q0p w1 (v 10) w3.heap.size 3) (q11:v 11 = _) (q12:v 12 = _);intro bb hbb;intro K hK;have o1:bb.eval (.tmp 30) = v 10:=by rw [hbb]; dsimp only; (try simp (discharger:=decide) only [eval_put_ne]); rw [Q0a (by simp only [size_put]; exact (by decide:30 < 44))]
      have o2:bb.eval (.tmp 32) = .slice Y l2.length capy:=by rw [hbb]; dsimp only; (try simp (discharger:=decide) only [eval_put_ne]); rw [Q0a (by simp only [size_put]; exact (by decide:32 < 44))]; exact q12
      exact Q1f (.tmp 30) (.tmp 32) 44 rfl w3.heap.size 3 j0 (.int .i64 0) 8 Tryz.underlying44 hj jz0 jz1 jz2 rfl (Value.int .i64) (v 10) (.slice Y l2.length capy) l2 o1 q10 o2 (Q9r (HJ2.out.ext (hdr.trans hx))) (fun _ _=>rfl) (by omega) (by decide) (hdr.trans hx).size (fun v' w' hown hx2=>hK _ _ hx2 (Q0g.weaken hown (Nat.zero_le _)))
     case g17=>
      intro v w1 hx _ (q7:v 7 = _) (q8:v 8 = _) _ _ (q11:v 11 = _) (q12:v 12 = _) _ (q14:Q0p w1 (v 14) w3.heap.size 3) (q15:v 15 = _) (q16:v 16 = _);intro bb hbb;intro K hK;have o1:bb.eval (.tmp 34) = v 14:=by rw [hbb]; dsimp only; (try simp (discharger:=decide) only [eval_put_ne]); rw [Q0a (by simp only [size_put]; exact (by decide:34 < 44))]
      have o2:bb.eval (.tmp 36) = .slice Z l3.length capz:=by rw [hbb]; dsimp only; (try simp (discharger:=decide) only [eval_put_ne]); rw [Q0a (by simp only [size_put]; exact (by decide:36 < 44))]; exact q16
      exact Q1f (.tmp 34) (.tmp 36) 44 rfl w3.heap.size 3 j0 (.int .i64 0) 8 Tryz.underlying44 hj jz0 jz1 jz2 rfl (Value.int .i64) (v 14) (.slice Z l3.length capz) l3 o1 q14 o2 (Q9r (HJ3.out.ext (hdr.trans hx))) (fun _ _=>rfl) (by omega) (by decide) (hdr.trans hx).size (fun v' w' hown hx2=>hK _ _ hx2 (Q0g.weaken hown (Nat.zero_le _)))
     case g18=>
      intro v w1 hx (q2:v 2 = _) (q3:v 3 = _) (q4:v 4 = _) (q5:v 5 = _) _ (q7:v 7 = _) (q8:v 8 = _) (q9:(fun v w'=>Q0g w' 0 3 (.int .i64) (v 9) l1) v w1) _ (q11:v 11 = _) (q12:v 12 = _) (q13:(fun v w'=>Q0g w' 0 3 (.int .i64) (v 13) l2) v w1) _ (q15:v 15 = _) (q16:v 16 = _) (q17:(fun v w'=>Q0g w' 0 3 (.int .i64) (v 17) l3) v w1);intro bb hbb;obtain ⟨s9,c9,e9,_⟩:=Q0g.shape q9;obtain ⟨s10,c10,e10,_⟩:=Q0g.shape q13;obtain ⟨s11,c11,e11,_⟩:=Q0g.shape q17;have o1:bb.eval (.tmp 23) = .string nm:=by rw [hbb]; dsimp only; (try simp (discharger:=decide) only [eval_put_ne]); rw [Q0a (by simp only [size_put]; exact (by decide:23 < 44))]; exact q3
      have o2:bb.eval (.tmp 25) = .int .i64 wt:=by rw [hbb]; dsimp only; (try simp (discharger:=decide) only [eval_put_ne]); rw [Q0a (by simp only [size_put]; exact (by decide:25 < 44))]; exact q5
      have o3:bb.eval (.tmp 29) = v 9:=by rw [hbb]; dsimp only; (try simp (discharger:=decide) only [eval_put_ne]); rw [Q0a (by simp only [size_put]; exact (by decide:29 < 44))]
      have o4:bb.eval (.tmp 33) = v 13:=by rw [hbb]; dsimp only; (try simp (discharger:=decide) only [eval_put_ne]); rw [Q0a (by simp only [size_put]; exact (by decide:33 < 44))]
      have o5:bb.eval (.tmp 37) = v 17:=by rw [hbb]; dsimp only; (try simp (discharger:=decide) only [eval_put_ne]); rw [Q0a (by simp only [size_put]; exact (by decide:37 < 44))]
      rw [e9] at o3;rw [e10] at o4;rw [e11] at o5;exact ⟨_,fun w=>Y5r _ (.tmp 23) (.tmp 25) (.tmp 29) (.tmp 33) (.tmp 37) rfl o1 o2 o3 o4 o5 (fun w=>X8q w _ _ _ _ _ _ _ _ _ _ _),by show Value.agg #[.string nm,.int .i64 wt,.slice s9 l1.length c9,.slice s10 l2.length c10,.slice s11 l3.length c11] = Value.agg #[.string nm,.int .i64 wt,v 9,v 13,v 17]; rw [e9,e10,e11]⟩
     case g19=>
      intro v w1 hx (q2:v 2 = _) (q3:v 3 = _) (q4:v 4 = _) (q5:v 5 = _) _ (q7:v 7 = _) (q8:v 8 = _) (q9:(fun v w'=>Q0g w' 0 3 (.int .i64) (v 9) l1) v w1) _ (q11:v 11 = _) (q12:v 12 = _) (q13:(fun v w'=>Q0g w' 0 3 (.int .i64) (v 13) l2) v w1) _ (q15:v 15 = _) (q16:v 16 = _) (q17:(fun v w'=>Q0g w' 0 3 (.int .i64) (v 17) l3) v w1) (q18:(fun v w'=>v 18 = .agg #[.string nm,.int .i64 wt,v 9,v 13,v 17]) v w1);intro bb hbb;intro K hK;obtain ⟨s9,c9,e9,_⟩:=Q0g.shape q9;obtain ⟨s10,c10,e10,_⟩:=Q0g.shape q13;obtain ⟨s11,c11,e11,_⟩:=Q0g.shape q17;have o1:bb.eval (.tmp 38) = .agg #[.string nm,.int .i64 wt,v 9,v 13,v 17]:=by rw [hbb]; dsimp only; (try simp (discharger:=decide) only [eval_put_ne]); rw [Q0a (by simp only [size_put]; exact (by decide:38 < 44))]; exact q18
      rw [e9,e10,e11] at o1;have hbl:Blk (w1.alloc (.cells (Value.agg #[.string nm,.int .i64 wt,.slice s9 l1.length c9,.slice s10 l2.length c10,.slice s11 l3.length c11]).cells 90)) w1.heap.size 90 (Y1j (⟨nm,wt,l1,l2,l3⟩,v 9,v 13,v 17)).toArray:=by rw [e9,e10,e11]; exact Blk.made _ _ _
      exact Q4a 72 90 (.tmp 38) rfl o1 (Y7g w1 _ _ _ _ _ _ _ _ _ _ _) (hK _ _ (Ext.box _ _) ⟨_,rfl,hbl⟩)
     case g20=>
      intro v w1 hx (q0:v 0 = _) (q1:v 1 = _) (q2:v 2 = _) (q3:v 3 = _) (q4:v 4 = _) (q5:v 5 = _) _ (q7:v 7 = _) (q8:v 8 = _) (q9:(fun v w'=>Q0g w' 0 3 (.int .i64) (v 9) l1) v w1) _ (q11:v 11 = _) (q12:v 12 = _) (q13:(fun v w'=>Q0g w' 0 3 (.int .i64) (v 13) l2) v w1) _ (q15:v 15 = _) (q16:v 16 = _) (q17:(fun v w'=>Q0g w' 0 3 (.int .i64) (v 17) l3) v w1) _ (q19:(fun v w'=>∃ g,v 19 = .slice (some ⟨g,0,none⟩) 1 1 /\ Blk w' g 90 (Y1j (⟨nm,wt,l1,l2,l3⟩,v 9,v 13,v 17)).toArray) v w1);intro wl hT;obtain rfl:wl = w1:=hT;intro bb hbb;intro K hK;obtain ⟨g,hg10,hb10⟩:=q19;have o1:bb.eval (.tmp 21) = xv:=by rw [hbb]; dsimp only; (try simp (discharger:=decide) only [eval_put_ne]); rw [Q0a (by simp only [size_put]; exact (by decide:21 < 44))]; exact q1
      have o2:bb.eval (.tmp 39) = .slice (some ⟨g,0,none⟩) 1 1:=by rw [hbb]; dsimp only; (try simp (discharger:=decide) only [eval_put_ne]); rw [Q0a (by simp only [size_put]; exact (by decide:39 < 44))]; exact hg10
      have hxx:=hdr.trans hx;exact Q6h _ _ 72 rfl wb.heap.size 90 l0 (.agg #[.string ⟨#[]⟩,.int .i64 0,.slice none 0 0,.slice none 0 0,.slice none 0 0]) 5 96 Tryz.underlying72 li lz0 lz1 lz2 rfl (by decide) Y1j Y3v xv _ (⟨nm,wt,l1,l2,l3⟩,v 9,v 13,v 17) o1 (HOW3.out.below hxx) ⟨g,0,none⟩ 1 o2 (X2w hb10) (X9n.one (q:=(⟨nm,wt,l1,l2,l3⟩,v 9,v 13,v 17)) ⟨q9,q13,q17⟩) (by omega) (by decide) (by have:=hxx.size; omega) (fun v' w' h1 h2=>hK _ _ ⟨h1,h2⟩)
     case g21=>
      intro v w1 hx (q0:v 0 = _) (q1:v 1 = _) (q2:v 2 = _) (q3:v 3 = _) (q4:v 4 = _) (q5:v 5 = _) _ (q7:v 7 = _) (q8:v 8 = _) _ _ (q11:v 11 = _) (q12:v 12 = _) _ _ (q15:v 15 = _) (q16:v 16 = _) _ _ _;intro wl hT;replace hT:(fun v w1 w'=>Q1r w' wb.heap.size 90 5 Y1j (v 20) (qs ++ [(⟨nm,wt,l1,l2,l3⟩,v 9,v 13,v 17)]) /\ w1.grownBy w' xv.ownBlock) v w1 wl:=hT;intro bb hbb;subst hbb;intro K hK;go_simp;exact hK _ _ ⟨rfl,hT⟩
     case g22=>
      intro v w1 hx (q0:v 0 = _) (q1:v 1 = _) (q2:v 2 = _) (q3:v 3 = _) (q4:v 4 = _) (q5:v 5 = _) _ (q7:v 7 = _) (q8:v 8 = _) _ _ (q11:v 11 = _) (q12:v 12 = _) _ _ (q15:v 15 = _) (q16:v 16 = _) _ _ _;intro wl hT;replace hT:(fun v w1 w'=>v 21 = .pointer (some ⟨O,2,none⟩) /\ Q1r w' wb.heap.size 90 5 Y1j (v 20) (qs ++ [(⟨nm,wt,l1,l2,l3⟩,v 9,v 13,v 17)]) /\ w1.grownBy w' xv.ownBlock) v w1 wl:=hT;intro bb hbb;intro K hK;obtain ⟨hT0,hT1,hT2⟩:=hT;have hxx:=hdr.trans hx;obtain ⟨bp,cp,hsh,_⟩:=hT1.shape;have o1:bb.eval (.tmp 41) = .pointer (some ⟨O,2,none⟩):=by rw [hbb]; dsimp only; (try simp (discharger:=decide) only [eval_put_ne]); rw [Q0a (by simp only [size_put]; exact (by decide:41 < 44))]; exact hT0
      have o2:bb.eval (.tmp 40) = v 20:=by rw [hbb]; dsimp only; (try simp (discharger:=decide) only [eval_put_ne]); rw [Q0a (by simp only [size_put]; exact (by decide:40 < 44))]
      have hbl:=Go.Tw.Q3m (HBK3.out.ext hxx) (HOW3.out.below hxx) (by omega) hT2
      exact Q5b _ _ rfl Tryz.Z3i (g:=O) (k:=2) o1 o2 (by rw [hsh]; rfl) (by rw [hsh]; rfl) hbl (by show 2 < 3; omega) (fun v'=>hK _ _ ⟨v 20,wl,hT1,hT2,rfl⟩)
     case post =>
      intro v w1 hx;(iterate 6 intro (zq:v _ = _));intro (q6:Q0p w1 (v 6) w3.heap.size 3);(iterate 2 intro (zq:v _ = _));intro (q9:(fun v w'=>Q0g w' 0 3 (.int .i64) (v 9) l1) v w1) (q10:Q0p w1 (v 10) w3.heap.size 3);(iterate 2 intro (zq:v _ = _));intro (q13:(fun v w'=>Q0g w' 0 3 (.int .i64) (v 13) l2) v w1) (q14:Q0p w1 (v 14) w3.heap.size 3);(iterate 2 intro (zq:v _ = _));intro (q17:(fun v w'=>Q0g w' 0 3 (.int .i64) (v 17) l3) v w1) (q18:(fun v w'=>v 18 = .agg #[.string nm,.int .i64 wt,v 9,v 13,v 17]) v w1) (q19:(fun v w'=>∃ g,v 19 = .slice (some ⟨g,0,none⟩) 1 1 /\ Blk w' g 90 (Y1j (⟨nm,wt,l1,l2,l3⟩,v 9,v 13,v 17)).toArray) v w1);intro w2 hE;replace hE:(fun v w1 w'=>∃ x wm,Q1r wm wb.heap.size 90 5 Y1j x (qs ++ [(⟨nm,wt,l1,l2,l3⟩,v 9,v 13,v 17)]) /\ w1.grownBy wm xv.ownBlock /\ w' = wm.setCell ⟨O,2,none⟩ x) v w1 w2:=hE;simp only [Flow.acts,Act.put];go_simp;obtain ⟨x,wm,hom,hgm,rfl⟩:=hE;have hxx:=hdr.trans hx;have hbm:=Go.Tw.Q3m (HBK3.out.ext hxx) (HOW3.out.below hxx) (by omega) hgm
      have hof:=((HOF3.out.ext hxx (by omega)).grown (HOW3.out.below hxx) (by omega) (by omega) hgm).set 2 x
      have HO6:=Lib.hid (hom.X2x (p:=⟨O,2,none⟩) (by show O < wb.heap.size; omega) x)
      have HB6:=Lib.hid (hbm.set 2 x);have HOF6:=Lib.hid hof;have HU6:=Lib.hid (Q3e (u:=x) (k:=2) (Q2k (HU3.out.below hxx) (HOW3.out.below hxx) (by decide) hgm) hbm (by decide))
      have HM6:Hid (Z6g (wm.setCell ⟨O,2,none⟩ x) (qs ++ [(⟨nm,wt,l1,l2,l3⟩,v 9,v 13,v 17)])):=Lib.hid (fun q hq=>by
       rcases List.mem_append.1 hq with hq | hq
       . exact (((HMR3.out q hq).ext hxx).grown (HOW3.out.below hxx) (by decide) hgm).set hbm (by decide)
       . rw [List.mem_singleton.1 hq]
         exact (X9n.grown (q:=(⟨nm,wt,l1,l2,l3⟩,v 9,v 13,v 17)) ⟨q9,q13,q17⟩ (HOW3.out.below hxx) (by decide) hgm).set hbm (by decide))
      obtain ⟨w6,hw6⟩:∃ y,wm.setCell ⟨O,2,none⟩ x = y:=⟨_,rfl⟩;rw [hw6] at HO6 HB6 HOF6 HU6 HM6 ⊢;clear hw6 hom hgm hxx hx hbm hof hdr q6 q9 q10 q13 q14 q17 q18 q19;(repeat clear zq);go_wp2;go_roundw
      case rel=>exact ⟨k + 1,x,qs ++ [(⟨nm,wt,l1,l2,l3⟩,v 9,v 13,v 17)],by omega,by go_num,HO6.out,by rw [List.map_append,HQS.out,HTK.out]; rfl,HM6.out,HU6.out,HB6.out,HOF6.out⟩
      case measure=>simp [intOf]; omega
   . have hkI:¬ (k:Int) < n:=by omega
     have hkn:k = n:=by omega
     have hall:s.members.take k = s.members:=by rw [List.take_of_length_le (by rw [HN.out]; omega)]
     rw [hall] at hqs;have hsm:∀ q ∈ qs,Short q.1.name /\ q.1.classes.length <= 1000 /\ q.1.outside.length <= 1000 /\ q.1.inflow.length <= 1000:=fun q hq=>by
      have hm:q.1 ∈ s.members:=by rw [<- hqs]; exact List.mem_map_of_mem hq
      obtain ⟨j,hj,he⟩:=List.getElem_of_mem hm;obtain ⟨_,_,_,_,_,_,_,_,_,_,_,_,_,_,_,hsn⟩:=HC.out j (by rw [<- HN.out]; exact hj)
      obtain ⟨-,h1,h2,h3⟩:=HS.out.each j hj;unfold Q1g at hsn;unfold Q0f at h1;unfold Q0n at h2;unfold Q0v at h3;rw [Q0r _ hj,he] at hsn h1 h2 h3;exact ⟨hsn,by omega,by omega,by omega⟩
     have HSM:=Lib.hid hsm;have hr:=HK1.out.below HOF.out.1 (by omega)
     have HRR:=Lib.hid hr;have HXR:=Lib.hid hxr;have HXO:=Lib.hid hqs;have HOWN:=Lib.hid hown;have HBO2:=Lib.hid hbo;obtain ⟨ax,cx,ex,-⟩:=hown.shape;have HQK:=Lib.hid hqk;have hone:∀ u ∈ (#[Value.int .i64 lim,uv,xv]:Array Value).toList,u.oneCell' = true:=by
      intro u hu;simp only [List.mem_cons,List.not_mem_nil,or_false] at hu
      rcases hu with rfl | rfl | rfl
      . rfl
      . rw [HEU.out]; rfl
      . rw [ex]; rfl
     have HONE:=Lib.hid hone;clear hown hqs hmr hu hbo hoff hxr hall hsm hone ex hqk;go_wp2_with (first | (refine Q0j rfl _ _ rfl Tryz.Y7j Tryz.X3a rfl HBO2.out rfl ?_) | (refine Q2a rfl _ _ 74 rfl Tryz.X3a rfl rfl hr rfl rfl HONE.out ?_; intro w9 hb9 hl9 ho9))
     refine bodyPost_ret (Q5y Tryz.results18 rfl hb9 Tryz.Y7j Tryz.X3a) rfl ?_;refine ⟨_,rfl,⟨_,_,by rw [<- HLIM.out],⟨?_,?_⟩⟩,Below.trans HXR.out (hl9 _ (by have:=HGS.out; omega))⟩
     . exact (Q5o HUU.out HRR.out (by decide) ho9).ints (by rw [HT.out]; omega)
     . have h:=Y8v (HOWN.out.only (g:=gs + 1) (by omega) ho9) (by rw [HQK.out]; omega) (fun q hq=>(HMR.out q hq).only HRR.out (by decide) ho9) HSM.out
       rw [HXO.out] at h;exact h
end Go.Proofs
namespace Go.Proofs
open Go.RowKit Go.Tw Go.Flow
attribute [local go_sem] Oper.semAt_some
def Q4i (s:Q0c) (n:Int) (l:List Bool):Int:=Q0h [s.err,Q0t (X2o s n) 10,Q0t (!decide (l.length = s.ships.length)) 2]
def X3y (s:Q0c) (n:Int) (l:List Bool):List Int:=if Q4i s n l = 0 then (Q1z s n.toNat).Q2y l else []
theorem Y0f {s:Q0c} {n:Int} {l:List Bool} (h:Q4i s n l = 0):Z1i s n = 0 /\ l.length = s.ships.length:=by
 unfold Q4i at h;unfold Z1i;rw [Q0i] at h
 by_cases he:s.err = 0
 . rw [if_pos he,Q0i] at h
   by_cases hm:Q0t (X2o s n) 10 = 0
   . rw [if_pos hm,Q0i] at h
     by_cases hl:l.length = s.ships.length
     . refine ⟨?_,hl⟩
       rw [Q0i,if_pos he,Q0i,if_pos hm]; rfl
     . have hw:Q0t (!decide (l.length = s.ships.length)) 2 = 2:=by simp [Q0t,hl]
       rw [hw] at h; exact absurd h (by decide)
   . rw [if_neg hm] at h; exact absurd h hm
 . rw [if_neg he] at h; exact absurd h he
theorem Y1y (w:World) (v u:Value) (s:Q0c) (n:Int) (l:List Bool) (hv:Q0o w v s) (hu:Q2c w u l) (hs:Q3z s) :
    Calls Tryz.prog 40 #[v,.int .i64 n,u] w fun e w'=>∃ x,e = .returned (.tuple #[x,.int .i64 (Q4i s n l)]) /\ Q0b w' x (X3y s n l) /\ Ext w w':=by
 obtain ⟨a,b,rfl,h2⟩:=hv;obtain ⟨A,capa,rfl,-,-,-⟩:=h2.ships.opened;obtain ⟨B,capb,rfl,-,-,-⟩:=h2.members.opened;have HU:=Lib.hid hu;obtain ⟨U,capu,rfl,-,-,-⟩:=hu.opened;have H2:=Lib.hid h2;have HS:=Lib.hid hs;clear h2 hs hu;obtain ⟨L,hL⟩:∃ L,l.length = L:=⟨_,rfl⟩;have HL:=Lib.hid hL;obtain ⟨T,hT⟩:∃ L,s.ships.length = L:=⟨_,rfl⟩;have HT:=Lib.hid hT;obtain ⟨z,hz⟩:∃ z,(!decide (l.length = s.ships.length)) = z:=⟨_,rfl⟩;have HZ:Hid (((L:Int) != (T:Int)) = z):=Lib.hid (by
  rw [<- hz,hL,hT]
  by_cases h:L = T
  . simp [h]
  . simp [h]; omega)
 have HE1:Hid (∀ (W:World) (u:Value),Q0b W u [s.err,Q0t (X2o s n) 10,Q0t z 2] -> Calls Tryz.prog 45 #[u] W fun e W'=>e = .returned (.int .i64 (Q4i s n l)) /\ W = W'):=Lib.hid (fun W u h=>by
  have:=first_any W u _ h;rw [<- hz] at this; exact this)
 rw [hL,hT];clear hL hT hz;go_enter Tryz.func40,Tryz.ntmps40;go_wp2_with fail;obtain ⟨W,hWW,k0,HXW,eW⟩:=Q2q w 74 #[.int .i64 s.limit,.slice A T capa,.slice B s.members.length capb];rw [hWW];clear hWW;obtain ⟨gs,hgs⟩:∃ x,w.heap.size = x:=⟨_,rfl⟩;rw [hgs] at k0 ⊢;have K0:=Lib.hid k0;clear k0 hgs eW;have hdr:=(Ext.refl W).drew;have HSE:Hid (∀ W',Ext W W' -> Q0o W' (.agg #[.int .i64 s.limit,.slice A T capa,.slice B s.members.length capb]) s):=Lib.hid (fun W' hW=>⟨_,_,rfl,by rw [<- HT.out]; exact H2.out.ext (HXW.out.trans hW)⟩)
 refine Flow.Q1p [.w,.w,.w,.p,.w,.p,.p,.p,.w,.p,.p,.w,.w,.w,.p] [0,1,2,3,4,5,6,7,8,9,10,11,12,13,14] [[],[0],[],[],[1,2,3],[],[5],[],[7],[8],[6,9],[4,10],[1,4,11],[11,12],[0,1,2,3,4,5,6,7,8,9,10,11,12,13]]
  [.c 0 (.agg #[.int .i64 s.limit,.slice A T capa,.slice B s.members.length capb]),.c 1 (.int .i64 s.err),.c 2 (.agg #[.int .i64 s.limit,.slice A T capa,.slice B s.members.length capb]),.c 3 (.int .i64 n),.c 4 (.int .i64 (Q0t (X2o s n) 10)),.c 5 (.slice U L capu),.c 6 (.int .i64 ((L:Nat):Int)),.c 7 (.pointer (some ⟨gs,1,none⟩)),.c 8 (.slice A T capa),.c 9 (.int .i64 ((T:Nat):Int)),.c 10 (.bool z),.c 11 (.int .i64 (Q0t z 2)),⟨fun v wz=>(fun v w'=>Q0b w' (v 12) [s.err,Q0t (X2o s n) 10,Q0t z 2]) v wz,by intro v a b hx h; exact Q0b.ext h hx⟩,.c 13 (.int .i64 (Q4i s n l)),.c 14 (.int .i64 (Q4i s n l))]
  (by kernel_rfl) rfl (by kernel_rfl) ⟨?g0,?g1,?g2,?g3,?g4,?g5,?g6,?g7,?g8,?g9,?g10,?g11,?g12,?g13,?g14,trivial⟩ ?post
 case g0 | g2=>
  intro v w1 hx;intro bb hbb;intro K hK;have o1:bb.eval (.tmp 3) = .pointer (some ⟨gs,0,none⟩):=by rw [hbb]; dsimp only; (try simp (discharger:=decide) only [eval_put_ne]); rfl
  exact Q0s (.tmp 3) _ rfl Tryz.Z3e Tryz.Y8k o1 (K0.out.ext (hdr.trans hx)) rfl (hK _ _ (Ext.refl _) rfl)
 case g1=>
  intro v w1 hx;(repeat intro (zq:v _ = _));intro bb hbb;subst hbb;intro K hK;go_simp;refine Q0d (Q6n w1 _ s (HSE.out w1 (hdr.trans hx)) HS.out) ?_;rintro e w2 ⟨rfl,hx2⟩;exact ⟨_,rfl,hK _ _ hx2 rfl⟩
 case g3 | g5 | g7=>
  intro v w1 hx;intro bb hbb;subst hbb;refine ⟨_,fun w=>?_,rfl⟩;go_simp
 case g4=>
  intro v w1 hx;(repeat intro (zq:v _ = _));intro bb hbb;subst hbb;intro K hK;go_simp;refine Q0d (Q6x w1 _ s n (HSE.out w1 (hdr.trans hx))) ?_;rintro e w2 ⟨rfl,hx2⟩;exact ⟨_,rfl,hK _ _ hx2 rfl⟩
 case g6 | g9=>
  intro v w1 hx;(repeat intro (zq:v _ = _));intro bb hbb;subst hbb;refine ⟨_,fun w=>?_,rfl⟩;go_simp
 case g8=>
  intro v w1 hx;(repeat intro (zq:v _ = _));intro bb hbb;subst hbb;have n0:w1.cell? ⟨gs,1,none⟩ = some (.slice A T capa):=(K0.out.ext (hdr.trans hx)).cell 1;intro K hK;go_simp;exact hK _ _ (Ext.refl _) rfl
 case g10=>
  intro v w1 hx;(repeat intro (zq:v _ = _));intro bb hbb;subst hbb;refine ⟨.bool z,fun w=>?_,rfl⟩;go_simp;exact HZ.out
 case g11=>
  intro v w1 hx;(repeat intro (zq:v _ = _));intro bb hbb;subst hbb;intro K hK;go_simp;refine Q0d (Q8v w1 z 2) ?_;rintro e w2 ⟨rfl,rfl⟩;exact ⟨_,rfl,hK _ _ (Ext.refl _) rfl⟩
 case g12=>
  intro v w1 hx;(repeat intro (zq:v _ = _));intro bb hbb;subst hbb;intro K hK;go_simp;exact hK _ _ (Ext.box _ _) (Q2b (l:=[s.err,Q0t (X2o s n) 10,Q0t z 2]) (by simp))
 case g13=>
  intro v w1 hx (q11:v 11 = _) (q12:(fun v w'=>Q0b w' (v 12) [s.err,Q0t (X2o s n) 10,Q0t z 2]) v w1);intro bb hbb;subst hbb;intro K hK;go_simp;refine Q0d (HE1.out w1 _ q12) ?_;rintro e w2 ⟨rfl,rfl⟩;exact ⟨_,rfl,hK _ _ (Ext.refl _) rfl⟩
 case g14=>
  intro v w1 hx (q0:v 0 = _) (q1:v 1 = _) (q2:v 2 = _) (q3:v 3 = _) (q4:v 4 = _) (q5:v 5 = _) (q6:v 6 = _) (q7:v 7 = _) (q8:v 8 = _) (q9:v 9 = _) (q10:v 10 = _) (q11:v 11 = _) _ (q13:v 13 = _);intro bb hbb;subst hbb;refine ⟨_,fun w=>?_,rfl⟩;go_simp
 case post =>
  intro v w1 hx;(iterate 12 intro (zq:v _ = _));intro (q12:(fun v w'=>Q0b w' (v 12) [s.err,Q0t (X2o s n) 10,Q0t z 2]) v w1);(iterate 2 intro (zq:v _ = _));simp only [Flow.All,Flow.acts,Act.put];go_simp;have HX5:=Lib.hid (HXW.out.trans (hdr.trans hx));have HK5:=Lib.hid (K0.out.ext (hdr.trans hx));obtain ⟨w5,rfl⟩:∃ X,X = w1:=⟨_,rfl⟩;obtain ⟨y5,hy5⟩:∃ z,v 12 = z:=⟨_,rfl⟩;rw [hy5];clear hx hdr hy5 q12;(repeat clear zq)
  by_cases he:Q4i s n l = 0
  . obtain ⟨hsm,hlen⟩:=Y0f he
    obtain ⟨hvs,hn0,hn1⟩:=Y4t hsm;have hne:(Q4i s n l != 0) = false:=by simp [he]
    obtain ⟨i,rfl⟩:∃ i:Nat,n = (i:Int):=⟨n.toNat,by omega⟩
    have him:i < s.members.length:=by omega
    have HFR:Hid (X3y s (i:Int) l = (Q1z s i).Q2y l):=Lib.hid (by unfold X3y; rw [if_pos he,Int.toNat_natCast])
    have HE0':=Lib.hid he;obtain ⟨E,hE⟩:∃ E,Q4i s (i:Int) l = E:=⟨_,rfl⟩;have HEE:=Lib.hid hE;rw [hE] at hne ⊢;obtain ⟨bm,off,capx,capy,capz,X,Y,Z,hme⟩:=X8a (H2.out.members.ext HX5.out) him;have hA:=hme.addr;subst hA;have e0:=hme.e0;have e1:=hme.e1;have e2:=hme.e2;have e3:=hme.e3;have e4:=hme.e4;have hT6:=hvs.tides;have HPK:=Lib.hid (X0v w5 _ _ (Q1z s i) l (hme.mem (Ext.refl _)) (HU.out.ext HX5.out) (by omega) (Y8z hvs him (by omega)))
    rw [HL.out] at HPK;have c2:w5.cell? ⟨gs,2,none⟩ = some (.slice (some ⟨bm,off,none⟩) s.members.length capb):=HK5.out.cell 2;have hiI:(i:Int) < s.members.length:=by omega
    obtain ⟨nm,hnm⟩:∃ x,Q1g s.members i = x:=⟨_,rfl⟩;obtain ⟨wt,hwt⟩:∃ x,Q1c s.members i = x:=⟨_,rfl⟩;obtain ⟨lc,hlc⟩:∃ x,(Q0f s.members i).length = x:=⟨_,rfl⟩;obtain ⟨lo,hlo⟩:∃ x,(Q0n s.members i).length = x:=⟨_,rfl⟩;obtain ⟨li,hli⟩:∃ x,(Q0v s.members i).length = x:=⟨_,rfl⟩;rw [hnm] at e0 HPK;rw [hwt] at e1 HPK;rw [hlc] at e2 HPK;rw [hlo] at e3 HPK;rw [hli] at e4 HPK;clear he hE hvs hn0 hn1 hme hnm hwt hlc hlo hli hsm him hT6;go_wp2_with (go_at_call 49; refine HPK.out.mono ?_; rintro e w6 ⟨x,rfl,h1,hx6⟩);refine bodyPost_ret (results_tmp2 Tryz.results40 _ _ _) rfl ?_;exact ⟨_,by rw [<- HEE.out,HE0'.out]; rfl,by rw [HFR.out]; exact h1,HX5.out.trans hx6⟩
  . have HFR:Hid (X3y s n l = []):=Lib.hid (if_neg he)
    have hne:(Q4i s n l != 0) = true:=by simp [he]
    clear he;go_wp2;refine bodyPost_ret (results_tmp2 Tryz.results40 _ _ _) rfl ?_;exact ⟨_,rfl,by rw [HFR.out]; exact Go.Tw.Rows.nil _ _ _,HX5.out⟩
end Go.Proofs
namespace Go.Tw
open Go.Ba Go.Proofs
def X5p:Mem:=⟨⟨#[97]⟩,1,[0,0],[20,40],[10,10]⟩
def Z4v:Q0c:=⟨30,[0,0],[X5p]⟩
theorem Y1p:X9z X5p 2:=⟨fun k hk=>by rcases (by omega:k = 0 ∨ k = 1) with rfl | rfl <;> decide,fun k hk=>by rcases (by omega:k = 0 ∨ k = 1) with rfl | rfl <;> decide,by decide⟩
theorem Z7l:Q9h (Q3k 30) [0] (Q0z X5p.outside X5p.inflow [false,true] 2) 4 = [[20],[0],[10],[10]]:=by
 have h:X9z X5p [false,true].length:=Y1p;have a0:=(Q7k (lim:=30) h (k:=0) (by decide)).1
 have a1:=Q9i (lim:=30) h 1 (by decide)
 have a2:=(Q7k (lim:=30) h (k:=1) (by decide)).1
 have a3:=Q9i (lim:=30) h 2 (by decide)
 have e:Q9h (Q3k 30) [0] (Q0z X5p.outside X5p.inflow [false,true] 2) 4 = [Q3a (Q3k 30) [0] (Q0z X5p.outside X5p.inflow [false,true] 2) 1,Q3a (Q3k 30) [0] (Q0z X5p.outside X5p.inflow [false,true] 2) 2,Q3a (Q3k 30) [0] (Q0z X5p.outside X5p.inflow [false,true] 2) 3,Q3a (Q3k 30) [0] (Q0z X5p.outside X5p.inflow [false,true] 2) 4]:=rfl;rw [e];refine congr (congrArg _ (a0.trans (by decide))) (congr (congrArg _ (a1.trans (by decide))) (congr (congrArg _ (a2.trans (by decide))) (congrArg (fun x=>[x]) (a3.trans (by decide)))))
theorem Y5z:Q3z Z4v:=⟨by decide,by decide,fun i hi=>by
 have:i = 0:=by have:i < 1:=hi; omega
 subst this;unfold Q8j;decide⟩
end Go.Tw
namespace Go.Proofs
open Go.RowKit Go.Tw Go.Flow Go.Ba
attribute [local go_sem] Oper.semAt_some
theorem Q4b (w:World) :
    Calls Tryz.prog 15 #[] w fun e w'=>e = .returned (.bool true) /\ Ext w w':=by
 go_enter Tryz.func15,Tryz.ntmps15;go_wp2_with fail;have k0:=Blk.made w 3 #[.int .i64 0,.int .i64 0];have x0:=Ext.box w (.cells #[.int .i64 0,.int .i64 0] 3);have es0:(w.alloc (.cells #[.int .i64 0,.int .i64 0] 3)).heap.size = w.heap.size + 1:=by simp
 obtain ⟨X0,hX0⟩:∃ X,w.alloc (.cells #[.int .i64 0,.int .i64 0] 3) = X:=⟨_,rfl⟩;rw [hX0] at k0 x0 es0 ⊢;clear hX0;have k1:=Blk.made X0 3 #[.int .i64 0,.int .i64 0];have x1:=Ext.box X0 (.cells #[.int .i64 0,.int .i64 0] 3);have es1:(X0.alloc (.cells #[.int .i64 0,.int .i64 0] 3)).heap.size = X0.heap.size + 1:=by simp
 obtain ⟨X1,hX1⟩:∃ X,X0.alloc (.cells #[.int .i64 0,.int .i64 0] 3) = X:=⟨_,rfl⟩;rw [hX1] at k1 x1 es1 ⊢;clear hX1;have k2:=Blk.made X1 3 #[.int .i64 20,.int .i64 40];have x2:=Ext.box X1 (.cells #[.int .i64 20,.int .i64 40] 3);have es2:(X1.alloc (.cells #[.int .i64 20,.int .i64 40] 3)).heap.size = X1.heap.size + 1:=by simp
 obtain ⟨X2,hX2⟩:∃ X,X1.alloc (.cells #[.int .i64 20,.int .i64 40] 3) = X:=⟨_,rfl⟩;rw [hX2] at k2 x2 es2 ⊢;clear hX2;have k3:=Blk.made X2 3 #[.int .i64 10,.int .i64 10];have x3:=Ext.box X2 (.cells #[.int .i64 10,.int .i64 10] 3);have es3:(X2.alloc (.cells #[.int .i64 10,.int .i64 10] 3)).heap.size = X2.heap.size + 1:=by simp
 obtain ⟨X3,hX3⟩:∃ X,X2.alloc (.cells #[.int .i64 10,.int .i64 10] 3) = X:=⟨_,rfl⟩;rw [hX3] at k3 x3 es3 ⊢;clear hX3;have k4:=Blk.made X3 90 #[.string ⟨#[97]⟩,.int .i64 1,.slice (some ⟨w.heap.size + 1,0,none⟩) 2 2,.slice (some ⟨w.heap.size + 1 + 1,0,none⟩) 2 2,.slice (some ⟨w.heap.size + 1 + 1 + 1,0,none⟩) 2 2];have x4:=Ext.box X3 (.cells #[.string ⟨#[97]⟩,.int .i64 1,.slice (some ⟨w.heap.size + 1,0,none⟩) 2 2,.slice (some ⟨w.heap.size + 1 + 1,0,none⟩) 2 2,.slice (some ⟨w.heap.size + 1 + 1 + 1,0,none⟩) 2 2] 90);have es4:(X3.alloc (.cells #[.string ⟨#[97]⟩,.int .i64 1,.slice (some ⟨w.heap.size + 1,0,none⟩) 2 2,.slice (some ⟨w.heap.size + 1 + 1,0,none⟩) 2 2,.slice (some ⟨w.heap.size + 1 + 1 + 1,0,none⟩) 2 2] 90)).heap.size = X3.heap.size + 1:=by simp
 obtain ⟨X4,hX4⟩:∃ X,X3.alloc (.cells #[.string ⟨#[97]⟩,.int .i64 1,.slice (some ⟨w.heap.size + 1,0,none⟩) 2 2,.slice (some ⟨w.heap.size + 1 + 1,0,none⟩) 2 2,.slice (some ⟨w.heap.size + 1 + 1 + 1,0,none⟩) 2 2] 90) = X:=⟨_,rfl⟩;rw [hX4] at k4 x4 es4 ⊢;clear hX4;have k5:=Blk.made X4 74 #[.int .i64 30,.slice (some ⟨w.heap.size,0,none⟩) 2 2,.slice (some ⟨w.heap.size + 1 + 1 + 1 + 1,0,none⟩) 1 1];have x5:=Ext.box X4 (.cells #[.int .i64 30,.slice (some ⟨w.heap.size,0,none⟩) 2 2,.slice (some ⟨w.heap.size + 1 + 1 + 1 + 1,0,none⟩) 1 1] 74);have es5:(X4.alloc (.cells #[.int .i64 30,.slice (some ⟨w.heap.size,0,none⟩) 2 2,.slice (some ⟨w.heap.size + 1 + 1 + 1 + 1,0,none⟩) 1 1] 74)).heap.size = X4.heap.size + 1:=by simp
 obtain ⟨X5,hX5⟩:∃ X,X4.alloc (.cells #[.int .i64 30,.slice (some ⟨w.heap.size,0,none⟩) 2 2,.slice (some ⟨w.heap.size + 1 + 1 + 1 + 1,0,none⟩) 1 1] 74) = X:=⟨_,rfl⟩;rw [hX5] at k5 x5 es5 ⊢;clear hX5;have k6:=Blk.made X5 4 #[.bool false,.bool true];have x6:=Ext.box X5 (.cells #[.bool false,.bool true] 4);have es6:(X5.alloc (.cells #[.bool false,.bool true] 4)).heap.size = X5.heap.size + 1:=by simp
 obtain ⟨X6,hX6⟩:∃ X,X5.alloc (.cells #[.bool false,.bool true] 4) = X:=⟨_,rfl⟩;rw [hX6] at k6 x6 es6 ⊢;clear hX6;replace k0:=(((((k0.ext x1).ext x2).ext x3).ext x4).ext x5).ext x6;replace k1:=((((k1.ext x2).ext x3).ext x4).ext x5).ext x6;replace k2:=(((k2.ext x3).ext x4).ext x5).ext x6;replace k3:=((k3.ext x4).ext x5).ext x6;replace k4:=(k4.ext x5).ext x6;replace k5:=k5.ext x6;have e0:X0.heap.size = w.heap.size + 1:=by omega
 have e1:X1.heap.size = w.heap.size + 1 + 1:=by omega
 have e2:X2.heap.size = w.heap.size + 1 + 1 + 1:=by omega
 have e3:X3.heap.size = w.heap.size + 1 + 1 + 1 + 1:=by omega
 have e4:X4.heap.size = w.heap.size + 1 + 1 + 1 + 1 + 1:=by omega
 have e5:X5.heap.size = w.heap.size + 1 + 1 + 1 + 1 + 1 + 1:=by omega
 have e6:X6.heap.size = w.heap.size + 1 + 1 + 1 + 1 + 1 + 1 + 1:=by omega
 rw [e0] at k1;rw [e1] at k2;rw [e2] at k3;rw [e3] at k4;rw [e4] at k5;rw [e5] at k6;have HXW:Hid (Ext w X6):=Lib.hid (Ext.trans (Ext.trans (Ext.trans (Ext.trans (Ext.trans (Ext.trans (x0) x1) x2) x3) x4) x5) x6);have eW:X6.heap.size = w.heap.size + 1 + 1 + 1 + 1 + 1 + 1 + 1:=e6;clear x0 es0 e0 x1 es1 e1 x2 es2 e2 x3 es3 e3 x4 es4 e4 x5 es5 e5 x6 es6 e6;obtain ⟨W,hWW⟩:∃ W,X6 = W:=⟨_,rfl⟩;rw [hWW] at HXW eW ⊢ k0 k1 k2 k3 k4 k5 k6;clear hWW;have hsea:Q0o W (.agg #[.int .i64 30,.slice (some ⟨w.heap.size,0,none⟩) 2 2,.slice (some ⟨w.heap.size + 1 + 1 + 1 + 1,0,none⟩) 1 1]) Z4v:=by
  refine ⟨_,_,rfl,⟨Q2m (l:=[0,0]) k0 rfl rfl (by decide),?_⟩⟩
  refine X8e k4 rfl (by decide) rfl fun i hi=>?_
  have:i = 0:=by have:i < 1:=hi; omega
  subst this;exact ⟨rfl,rfl,Q2m (l:=[0,0]) k1 rfl rfl (by decide),Q2m (l:=[20,40]) k2 rfl rfl (by decide),Q2m (l:=[10,10]) k3 rfl rfl (by decide),Z5m _⟩
 have hbl:Q2c W (.slice (some ⟨w.heap.size + 1 + 1 + 1 + 1 + 1 + 1,0,none⟩) 2 2) [false,true]:=by
  refine X8e (k:=1) k6 rfl (by decide) rfl fun i hi=>?_
  have:i = 0 ∨ i = 1:=by have:i < 2:=hi; omega
  rcases this with rfl | rfl <;> rfl
 have hfol:=Y1y W _ _ Z4v 0 [false,true] hsea hbl Y5z;have HFOL:=Lib.hid hfol;clear hsea hbl hfol k0 k1 k2 k3 k4 k5 k6 eW;refine HFOL.out.mono ?_;rintro e w2 ⟨x,rfl,hxi,hx2⟩;have hF:Q4i Z4v 0 [false,true] = 0:=by decide
 have hR:X3y Z4v 0 [false,true] = [20,10]:=by decide
 rw [hR] at hxi;rw [hF];have HXI:=Lib.hid hxi;have HX2:=Lib.hid (HXW.out.trans hx2);clear hxi hx2 hF hR HFOL;go_wp2_with fail;refine (Q8a _ 30).mono ?_;rintro e w3 ⟨u,rfl,hub,hx3⟩;have HUB:=Lib.hid hub;have HXI3:=Lib.hid (HXI.out.ext hx3);have HX3:=Lib.hid (HX2.out.trans hx3);clear hub hx3;go_wp2_with fail;have k0:=Blk.made w3 3 #[.int .i64 0];have x0:=Ext.box w3 (.cells #[.int .i64 0] 3);have es0:(w3.alloc (.cells #[.int .i64 0] 3)).heap.size = w3.heap.size + 1:=by simp
 obtain ⟨X0,hX0⟩:∃ X,w3.alloc (.cells #[.int .i64 0] 3) = X:=⟨_,rfl⟩;rw [hX0] at k0 x0 es0 ⊢;clear hX0;have k1:=Blk.made X0 3 #[.int .i64 10];have x1:=Ext.box X0 (.cells #[.int .i64 10] 3);have es1:(X0.alloc (.cells #[.int .i64 10] 3)).heap.size = X0.heap.size + 1:=by simp
 obtain ⟨X1,hX1⟩:∃ X,X0.alloc (.cells #[.int .i64 10] 3) = X:=⟨_,rfl⟩;rw [hX1] at k1 x1 es1 ⊢;clear hX1;have k2:=Blk.made X1 3 #[.int .i64 0];have x2:=Ext.box X1 (.cells #[.int .i64 0] 3);have es2:(X1.alloc (.cells #[.int .i64 0] 3)).heap.size = X1.heap.size + 1:=by simp
 obtain ⟨X2,hX2⟩:∃ X,X1.alloc (.cells #[.int .i64 0] 3) = X:=⟨_,rfl⟩;rw [hX2] at k2 x2 es2 ⊢;clear hX2;have k3:=Blk.made X2 3 #[.int .i64 10];have x3:=Ext.box X2 (.cells #[.int .i64 10] 3);have es3:(X2.alloc (.cells #[.int .i64 10] 3)).heap.size = X2.heap.size + 1:=by simp
 obtain ⟨X3,hX3⟩:∃ X,X2.alloc (.cells #[.int .i64 10] 3) = X:=⟨_,rfl⟩;rw [hX3] at k3 x3 es3 ⊢;clear hX3;have k4:=Blk.made X3 3 #[.int .i64 0];have x4:=Ext.box X3 (.cells #[.int .i64 0] 3);have es4:(X3.alloc (.cells #[.int .i64 0] 3)).heap.size = X3.heap.size + 1:=by simp
 obtain ⟨X4,hX4⟩:∃ X,X3.alloc (.cells #[.int .i64 0] 3) = X:=⟨_,rfl⟩;rw [hX4] at k4 x4 es4 ⊢;clear hX4;have k5:=Blk.made X4 49 #[.int .i64 20,.bool true,.slice (some ⟨w3.heap.size + 1,0,none⟩) 1 1,.int .i64 0,.bool true,.slice (some ⟨w3.heap.size + 1 + 1,0,none⟩) 1 1,.int .i64 40,.bool false,.slice (some ⟨w3.heap.size + 1 + 1 + 1,0,none⟩) 1 1,.int .i64 0,.bool false,.slice (some ⟨w3.heap.size + 1 + 1 + 1 + 1,0,none⟩) 1 1];have x5:=Ext.box X4 (.cells #[.int .i64 20,.bool true,.slice (some ⟨w3.heap.size + 1,0,none⟩) 1 1,.int .i64 0,.bool true,.slice (some ⟨w3.heap.size + 1 + 1,0,none⟩) 1 1,.int .i64 40,.bool false,.slice (some ⟨w3.heap.size + 1 + 1 + 1,0,none⟩) 1 1,.int .i64 0,.bool false,.slice (some ⟨w3.heap.size + 1 + 1 + 1 + 1,0,none⟩) 1 1] 49);have es5:(X4.alloc (.cells #[.int .i64 20,.bool true,.slice (some ⟨w3.heap.size + 1,0,none⟩) 1 1,.int .i64 0,.bool true,.slice (some ⟨w3.heap.size + 1 + 1,0,none⟩) 1 1,.int .i64 40,.bool false,.slice (some ⟨w3.heap.size + 1 + 1 + 1,0,none⟩) 1 1,.int .i64 0,.bool false,.slice (some ⟨w3.heap.size + 1 + 1 + 1 + 1,0,none⟩) 1 1] 49)).heap.size = X4.heap.size + 1:=by simp
 obtain ⟨X5,hX5⟩:∃ X,X4.alloc (.cells #[.int .i64 20,.bool true,.slice (some ⟨w3.heap.size + 1,0,none⟩) 1 1,.int .i64 0,.bool true,.slice (some ⟨w3.heap.size + 1 + 1,0,none⟩) 1 1,.int .i64 40,.bool false,.slice (some ⟨w3.heap.size + 1 + 1 + 1,0,none⟩) 1 1,.int .i64 0,.bool false,.slice (some ⟨w3.heap.size + 1 + 1 + 1 + 1,0,none⟩) 1 1] 49) = X:=⟨_,rfl⟩;rw [hX5] at k5 x5 es5 ⊢;clear hX5;replace k0:=((((k0.ext x1).ext x2).ext x3).ext x4).ext x5;replace k1:=(((k1.ext x2).ext x3).ext x4).ext x5;replace k2:=((k2.ext x3).ext x4).ext x5;replace k3:=(k3.ext x4).ext x5;replace k4:=k4.ext x5;have e0:X0.heap.size = w3.heap.size + 1:=by omega
 have e1:X1.heap.size = w3.heap.size + 1 + 1:=by omega
 have e2:X2.heap.size = w3.heap.size + 1 + 1 + 1:=by omega
 have e3:X3.heap.size = w3.heap.size + 1 + 1 + 1 + 1:=by omega
 have e4:X4.heap.size = w3.heap.size + 1 + 1 + 1 + 1 + 1:=by omega
 have e5:X5.heap.size = w3.heap.size + 1 + 1 + 1 + 1 + 1 + 1:=by omega
 rw [e0] at k1;rw [e1] at k2;rw [e2] at k3;rw [e3] at k4;rw [e4] at k5;have HXW:Hid (Ext w3 X5):=Lib.hid (Ext.trans (Ext.trans (Ext.trans (Ext.trans (Ext.trans (x0) x1) x2) x3) x4) x5);have eW:X5.heap.size = w3.heap.size + 1 + 1 + 1 + 1 + 1 + 1:=e5;clear x0 es0 e0 x1 es1 e1 x2 es2 e2 x3 es3 e3 x4 es4 e4 x5 es5 e5;obtain ⟨W,hWW⟩:∃ W,X5 = W:=⟨_,rfl⟩;rw [hWW] at HXW eW ⊢ k0 k1 k2 k3 k4 k5;clear hWW;have hcn:Q1v W (.slice (some ⟨w3.heap.size + 1 + 1 + 1 + 1 + 1,0,none⟩) 4 4) (Q0z X5p.outside X5p.inflow [false,true] 2):=by
  refine X8e k5 rfl (by decide) rfl fun i hi=>?_
  have:i = 0 ∨ i = 1 ∨ i = 2 ∨ i = 3:=by have:i < 4:=hi; omega
  rcases this with rfl | rfl | rfl | rfl
  . exact ⟨rfl,rfl,Q2m (l:=[10]) k1 rfl rfl (by decide)⟩
  . exact ⟨rfl,rfl,Q2m (l:=[0]) k2 rfl rfl (by decide)⟩
  . exact ⟨rfl,rfl,Q2m (l:=[10]) k3 rfl rfl (by decide)⟩
  . exact ⟨rfl,rfl,Q2m (l:=[0]) k4 rfl rfl (by decide)⟩
 have hrun:=X2d W u _ _ (Q3k 30) [0] (Q0z X5p.outside X5p.inflow [false,true] 2) (HUB.out.ext HXW.out) (Q2m (l:=[0]) k0 rfl rfl (by decide)) hcn (X3x ⟨by decide,by decide⟩) rfl (fun k=>by cases k with | zero=>exact ⟨by decide,by decide⟩ | succ k=>rw [Y6r (V:=[0]) (by simp)]; exact ⟨by decide,by decide⟩) (X1l (cl:=[false,true]) Y1p) (by decide)
 have HRUN:=Lib.hid hrun;have HXI4:=Lib.hid (HXI3.out.ext HXW.out);have HX4:=Lib.hid (HX3.out.trans HXW.out);clear hcn hrun k0 k1 k2 k3 k4 k5 eW;refine HRUN.out.mono ?_;rintro e w5 ⟨r,er,ll,rfl,hri,hres,hx5⟩;have hok:er = 0 /\ ll = [[20],[0],[10],[10]]:=by
  rcases hres with ⟨h1,h2,-⟩ | ⟨-,-,j,hj,hnf⟩
  . exact ⟨h1,h2.trans Z7l⟩
  . have hff:Q2t (Q3k 30) [0] (Q0z X5p.outside X5p.inflow [false,true] 2) j = true:=X3i (cl:=[false,true]) Y1p j hj
    rw [hff] at hnf; cases hnf
 obtain ⟨rfl,rfl⟩:=hok;obtain ⟨R,capr,rfl,-,-,hcr⟩:=hri.opened;obtain ⟨b,off,m0,rfl,-,e0,i0⟩:=hcr 0 (by decide)
 obtain ⟨b1,o1,m1,hA,-,e1,i1⟩:=hcr 1 (by decide)
 cases hA;obtain ⟨b1,o1,m2,hA,-,e2,i2⟩:=hcr 2 (by decide)
 cases hA;obtain ⟨b1,o1,m3,hA,-,e3,i3⟩:=hcr 3 (by decide)
 cases hA;rw [Nat.add_zero] at e0;replace i0:Q0b w5 m0 [20]:=i0;replace i1:Q0b w5 m1 [0]:=i1;replace i2:Q0b w5 m2 [10]:=i2;replace i3:Q0b w5 m3 [10]:=i3;have I0:=Lib.hid i0;have I1:=Lib.hid i1;have I2:=Lib.hid i2;have I3:=Lib.hid i3;have HXI5:=Lib.hid (HXI4.out.ext hx5);have HX5:=Lib.hid (HX4.out.trans hx5);clear hri hres hcr i0 i1 i2 i3 hx5 HRUN;go_wp2_with fail;refine (Q2w _ _ _ [20,10] [20,10] (HXI5.out.ext (Ext.box w5 _)) (Q2m (l:=[20,10]) (Blk.made _ _ _) rfl rfl (by decide))).mono ?_
 rintro e y1 ⟨rfl,hy⟩;rw [decide_eq_true rfl];replace hy:=(Ext.box w5 _).trans hy;replace e0:=hy.cell e0;replace e1:=hy.cell e1;replace e2:=hy.cell e2;replace e3:=hy.cell e3;replace I0:=Lib.hid (I0.out.ext hy);replace I1:=Lib.hid (I1.out.ext hy);replace I2:=Lib.hid (I2.out.ext hy);replace I3:=Lib.hid (I3.out.ext hy);have HY1:=Lib.hid (HX5.out.trans hy);clear hy;go_wp2_with fail;refine (Q2w _ _ _ [20] [20] (I0.out.ext (Ext.box y1 _)) (Q2m (l:=[20]) (Blk.made _ _ _) rfl rfl (by decide))).mono ?_
 rintro e y2 ⟨rfl,hy⟩;rw [decide_eq_true rfl];replace hy:=(Ext.box y1 _).trans hy;replace e1:=hy.cell e1;replace e2:=hy.cell e2;replace e3:=hy.cell e3;replace I1:=Lib.hid (I1.out.ext hy);replace I2:=Lib.hid (I2.out.ext hy);replace I3:=Lib.hid (I3.out.ext hy);have HY2:=Lib.hid (HY1.out.trans hy);clear hy e0;go_wp2_with fail;refine (Q2w _ _ _ [0] [0] (I1.out.ext (Ext.box y2 _)) (Q2m (l:=[0]) (Blk.made _ _ _) rfl rfl (by decide))).mono ?_
 rintro e y3 ⟨rfl,hy⟩;rw [decide_eq_true rfl];replace hy:=(Ext.box y2 _).trans hy;replace e2:=hy.cell e2;replace e3:=hy.cell e3;replace I2:=Lib.hid (I2.out.ext hy);replace I3:=Lib.hid (I3.out.ext hy);have HY3:=Lib.hid (HY2.out.trans hy);clear hy e1;go_wp2_with fail;refine (Q2w _ _ _ [10] [10] (I2.out.ext (Ext.box y3 _)) (Q2m (l:=[10]) (Blk.made _ _ _) rfl rfl (by decide))).mono ?_
 rintro e y4 ⟨rfl,hy⟩;rw [decide_eq_true rfl];replace hy:=(Ext.box y3 _).trans hy;replace e3:=hy.cell e3;replace I3:=Lib.hid (I3.out.ext hy);have HY4:=Lib.hid (HY3.out.trans hy);clear hy e2;go_wp2_with fail;refine (Q2w _ _ _ [10] [10] (I3.out.ext (Ext.box y4 _)) (Q2m (l:=[10]) (Blk.made _ _ _) rfl rfl (by decide))).mono ?_
 rintro e y5 ⟨rfl,hy⟩;rw [decide_eq_true rfl];replace hy:=(Ext.box y4 _).trans hy;have HY5:=Lib.hid (HY4.out.trans hy);clear hy e3;go_wp2;go_ret;exact ⟨rfl,HY5.out⟩
end Go.Proofs
