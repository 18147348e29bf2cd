/- Contract: copied. -/
import Derived.Test.YtghcnlbkghaaeaaDoorPv14
set_option maxRecDepth 1000000
set_option maxHeartbeats 64000000
set_option linter.unusedVariables false
set_option linter.unusedSimpArgs false
set_option linter.constructorNameAsVariable false
namespace Go.Proofs
open Go.RowKit Go.Tw Go.Flow
theorem Q7t (w:World) (s:ByteArray) (c:Int) (b:Option Addr) (n cp:Nat):(Instr.build 166 #[(0,.string s),(1,.int .i64 c),(2,.slice b n cp)]).run Tryd.prog w = .ok (.agg #[.string s,.int .i64 c,.slice b n cp]) w:=by kernel_rfl
theorem Q8k (w:World) (s:ByteArray) (c:Int) (b:Option Addr) (n cp:Nat):(Instr.build 83 #[(0,.string s),(1,.int .i64 c),(2,.slice b n cp)]).run Tryd.prog w = .ok (.agg #[.string s,.int .i64 c,.slice b n cp]) w:=by kernel_rfl
theorem Q8a (w:World) (b1 b2 b3:Option Addr) (n1 n2 n3 c1 c2 c3:Nat):(Instr.build 71 #[(0,.slice b1 n1 c1),(1,.slice b2 n2 c2),(2,.slice b3 n3 c3)]).run Tryd.prog w = .ok (.agg #[.slice b1 n1 c1,.slice b2 n2 c2,.slice b3 n3 c3]) w:=by kernel_rfl
theorem Q5s {w:World} {o:Oper} {a:Act} (T:TypeId) (x y z:Operand) (hop:o.op = .build T #[(0,x),(1,y),(2,z)]) {u1 u2 u3 r:Value} (h1:a.eval x = u1) (h2:a.eval y = u2) (h3:a.eval z = u3) (hr:∀ w,(Instr.build T #[(0,u1),(1,u2),(2,u3)]).run Tryd.prog w = .ok r w):(execOp a.eval o).run Tryd.prog w = .ok (.value r) w:=by
 unfold execOp;simp only [hop,List.map_toArray,List.map_cons,List.map_nil,h1,h2,h3,Sem.run_bind,hr,Result.andThen_ok,Sem.run_pure]
theorem Tryd.X7b (w:World):(sizeOf 134).run Tryd.prog w = .ok 2 w:=by kernel_rfl
theorem Tryd.X6u (w:World):(sizeOf 166).run Tryd.prog w = .ok 3 w:=by kernel_rfl
theorem Tryd.X3y (w:World):(sizeOf 83).run Tryd.prog w = .ok 3 w:=by kernel_rfl
def Q3o (w':World) (v:Value) (W:World) (T:TypeId) (n:Nat) (cs:Array Value):Prop:=∃ g,v = .slice (some ⟨g,0,none⟩) n n /\ W.heap.size <= g /\ Blk w' g T cs
theorem Q3o.ext {W:World} {T:TypeId} {n:Nat} {cs:Array Value} {v:Value} {a b:World} (h:Q3o a v W T n cs) (hx:Ext a b):Q3o b v W T n cs:=let ⟨g,h1,h2,h3⟩:=h; ⟨g,h1,h2,h3.ext hx⟩
theorem Q3o.shape {W:World} {T:TypeId} {n:Nat} {cs:Array Value} {v:Value} {a:World} (h:Q3o a v W T n cs):∃ b,v = .slice b n n:=let ⟨g,h1,_,_⟩:=h; ⟨_,h1⟩
theorem X6d (w:World) (v:Value) (t:Tree) (h1:t.basics.length <= 1000) (h2:t.causes.length <= 1000) (h3:t.gates.length <= 1000) (ht:IsTree w v t) :
    Calls Tryd.prog 73 #[v] w fun e w'=>∃ gb gc gg mc mg,e = .returned (.agg #[.slice (some ⟨gb,0,none⟩) t.basics.length t.basics.length,.slice (some ⟨gc,0,none⟩) t.causes.length t.causes.length,.slice (some ⟨gg,0,none⟩) t.gates.length t.gates.length]) /\ Y1y w' w.heap.size t gb gc gg mc mg /\ Ext w w':=by
 obtain ⟨ib,hib,hbz0,hbz1,hbz2⟩:=info_parts Tryd.Y2h;obtain ⟨ic,hic,hcz0,hcz1,hcz2⟩:=info_parts Tryd.Y2t;obtain ⟨ig,hig,hgz0,hgz1,hgz2⟩:=info_parts Tryd.Y2w;obtain ⟨a,b,c,rfl,h3⟩:=ht;obtain ⟨A,capa,rfl,hl1,hcap1,_⟩:=h3.basics.opened;obtain ⟨B,capb,rfl,hl2,hcap2,_⟩:=h3.causes.opened;obtain ⟨G,capg,rfl,hl3,hcap3,_⟩:=h3.gates.opened;have HT0:=Lib.hid h3;clear h3;go_enter Tryd.func73,Tryd.ntmps73;go_wp2;change Code.wp _ _ _ _ ((w.alloc (.cells #[.slice A t.basics.length capa,.slice B t.causes.length capb,.slice G t.gates.length capg] 71)).alloc (.cells #[.slice none 0 0,.slice none 0 0,.slice none 0 0] 71));obtain ⟨W,hWW,k0,k1,HXW,eW⟩:=X4g w 71 #[.slice A t.basics.length capa,.slice B t.causes.length capb,.slice G t.gates.length capg] 71 #[.slice none 0 0,.slice none 0 0,.slice none 0 0];rw [hWW];clear hWW;have HT:=Lib.hid (HT0.out.ext HXW.out);have K0:=Lib.hid k0;have K1:=Lib.hid k1;have hdr:=(Ext.refl W).drew;clear k0 k1;refine Flow.Q6x [.p,.w,.p,.w,.p,.w,.p,.w,.p,.w,.p,.w,.p,.w,.last] [0,1,2,3,4,5,6,7,8,9,10,11,12,13,14] [[],[0],[0,1],[0,1,2],[],[4],[4,5],[4,5,6],[],[8],[8,9],[8,9,10],[0,1,2,3,4,5,6,7,8,9,10,11],[],[0,1,2,3,4,5,6,7,8,9,10,11,12,13]] [14]
  [.c 0 (.pointer (some ⟨w.heap.size,0,none⟩)),.c 1 (.slice A t.basics.length capa),.c 2 (.int .i64 ((t.basics.length:Nat):Int)),⟨fun v wz=>Q3o wz (v 3) W 134 t.basics.length (Q0h enc2 t.basics.length fun _=>(emp,0)),fun _ _ _ hx h=>h.ext hx⟩,.c 4 (.pointer (some ⟨w.heap.size,1,none⟩)),.c 5 (.slice B t.causes.length capb),.c 6 (.int .i64 ((t.causes.length:Nat):Int)),⟨fun v wz=>Q3o wz (v 7) W 166 t.causes.length (Q0h enc3 t.causes.length fun _=>zero3),fun _ _ _ hx h=>h.ext hx⟩,.c 8 (.pointer (some ⟨w.heap.size,2,none⟩)),.c 9 (.slice G t.gates.length capg),.c 10 (.int .i64 ((t.gates.length:Nat):Int)),⟨fun v wz=>Q3o wz (v 11) W 83 t.gates.length (Q0h enc3 t.gates.length fun _=>zero3),fun _ _ _ hx h=>h.ext hx⟩,⟨fun v wz=>(fun v w'=>v 12 = .agg #[v 3,v 7,v 11]) v wz,by intro _ _ _ _ h; exact h⟩,⟨fun v wz=>(fun v w'=>∃ g,v 13 = .pointer (some ⟨g,0,none⟩) /\ W.heap.size <= g /\ Blk w' g 71 #[.slice none 0 0,.slice none 0 0,.slice none 0 0]) v wz,by rintro v a b hx ⟨g,h1,h2,h3⟩; exact ⟨g,h1,h2,h3.ext hx⟩⟩,.none]
  [fun v w1 w2=>∃ g,v 13 = .pointer (some ⟨g,0,none⟩) /\ W.heap.size <= g /\ Blk w2 g 71 #[v 3,v 7,v 11] /\ (∀ n,n <= g -> Below n w1 w2) /\ ∀ k,k ≠ g -> w2.heap[k]? = w1.heap[k]?] (by kernel_rfl) rfl (by kernel_rfl) ⟨?g0,?g1,?g2,?g3,?g4,?g5,?g6,?g7,?g8,?g9,?g10,?g11,?g12,?g13,?g14,trivial⟩ ?post
 case g0 | g4 | g8=>
  intro v w1 hx;intro bb hbb;subst hbb;refine ⟨_,fun w=>?_,rfl⟩;go_simp
 case g1 | g5 | g9=>
  intro v w1 hx;(repeat intro (zq:v _ = _));intro bb hbb;subst hbb;have n0:w1.cell? ⟨w.heap.size,0,none⟩ = some (.slice A t.basics.length capa):=(K0.out.ext (hdr.trans hx)).cell 0;have n1:w1.cell? ⟨w.heap.size,1,none⟩ = some (.slice B t.causes.length capb):=(K0.out.ext (hdr.trans hx)).cell 1;have n2:w1.cell? ⟨w.heap.size,2,none⟩ = some (.slice G t.gates.length capg):=(K0.out.ext (hdr.trans hx)).cell 2;intro K hK;go_simp;exact hK _ _ (Ext.refl _) rfl
 case g2 | g6 | g10=>
  intro v w1 hx;(repeat intro (zq:v _ = _));intro bb hbb;subst hbb;refine ⟨_,fun w=>?_,rfl⟩;go_simp
 case g3=>
  intro v w1 hx;(repeat intro (zq:v _ = _));intro bb hbb;intro K hK;have o1:bb.eval (.tmp 10) = .int .i64 ((t.basics.length:Nat):Int):=by rw [hbb]; dsimp only; (try simp (discharger:=decide) only [eval_put_ne]); rw [Q0a (by simp only [size_put]; exact (by decide:10 < 69))]; assumption
  exact Q5o (.tmp 10) _ _ rfl ib _ 2 24 Tryd.underlying67 hib hbz0 hbz1 hbz2 _ o1 h1 (by decide) (hK _ _ (Ext.box _ _) ⟨_,rfl,hx.size,by rw [<- made2]; exact Blk.made _ _ _⟩)
 case g7=>
  intro v w1 hx;(repeat intro (zq:v _ = _));intro bb hbb;intro K hK;have o1:bb.eval (.tmp 14) = .int .i64 ((t.causes.length:Nat):Int):=by rw [hbb]; dsimp only; (try simp (discharger:=decide) only [eval_put_ne]); rw [Q0a (by simp only [size_put]; exact (by decide:14 < 69))]; assumption
  exact Q5o (.tmp 14) _ _ rfl ic _ 3 48 Tryd.underlying68 hic hcz0 hcz1 hcz2 _ o1 h2 (by decide) (hK _ _ (Ext.box _ _) ⟨_,rfl,hx.size,by rw [<- made3]; exact Blk.made _ _ _⟩)
 case g11=>
  intro v w1 hx;(repeat intro (zq:v _ = _));intro bb hbb;intro K hK;have o1:bb.eval (.tmp 18) = .int .i64 ((t.gates.length:Nat):Int):=by rw [hbb]; dsimp only; (try simp (discharger:=decide) only [eval_put_ne]); rw [Q0a (by simp only [size_put]; exact (by decide:18 < 69))]; assumption
  exact Q5o (.tmp 18) _ _ rfl ig _ 3 48 Tryd.underlying69 hig hgz0 hgz1 hgz2 _ o1 h3 (by decide) (hK _ _ (Ext.box _ _) ⟨_,rfl,hx.size,by rw [<- made3]; exact Blk.made _ _ _⟩)
 case g12=>
  intro v w1 hx (q0:v 0 = _) (q1:v 1 = _) (q2:v 2 = _) (q3:Q3o w1 (v 3) W 134 t.basics.length (Q0h enc2 t.basics.length fun _=>(emp,0))) (q4:v 4 = _) (q5:v 5 = _) (q6:v 6 = _) (q7:Q3o w1 (v 7) W 166 t.causes.length (Q0h enc3 t.causes.length fun _=>zero3)) (q8:v 8 = _) (q9:v 9 = _) (q10:v 10 = _) (q11:Q3o w1 (v 11) W 83 t.gates.length (Q0h enc3 t.gates.length fun _=>zero3));intro bb hbb;obtain ⟨s3,e3⟩:=q3.shape;obtain ⟨s7,e7⟩:=q7.shape;obtain ⟨s11,e11⟩:=q11.shape;have o1:bb.eval (.tmp 11) = v 3:=by rw [hbb]; dsimp only; (try simp (discharger:=decide) only [eval_put_ne]); rw [Q0a (by simp only [size_put]; exact (by decide:11 < 69))]
  have o2:bb.eval (.tmp 15) = v 7:=by rw [hbb]; dsimp only; (try simp (discharger:=decide) only [eval_put_ne]); rw [Q0a (by simp only [size_put]; exact (by decide:15 < 69))]
  have o3:bb.eval (.tmp 19) = v 11:=by rw [hbb]; dsimp only; (try simp (discharger:=decide) only [eval_put_ne]); rw [Q0a (by simp only [size_put]; exact (by decide:19 < 69))]
  rw [e3] at o1;rw [e7] at o2;rw [e11] at o3;exact ⟨_,fun w=>Q5s _ (.tmp 11) (.tmp 15) (.tmp 19) rfl o1 o2 o3 (fun w=>Q8a w _ _ _ _ _ _ _ _ _),by show Value.agg #[.slice s3 t.basics.length t.basics.length,.slice s7 t.causes.length t.causes.length,.slice s11 t.gates.length t.gates.length] = Value.agg #[v 3,v 7,v 11]; rw [e3,e7,e11]⟩
 case g13=>
  intro v w1 hx;intro bb hbb;subst hbb;intro K hK;go_simp;exact hK _ _ (Ext.box _ _) ⟨_,rfl,hx.size,Blk.made _ _ _⟩
 case g14=>
  intro v w1 hx (q0:v 0 = _) (q1:v 1 = _) (q2:v 2 = _) (q3:Q3o w1 (v 3) W 134 t.basics.length (Q0h enc2 t.basics.length fun _=>(emp,0))) (q4:v 4 = _) (q5:v 5 = _) (q6:v 6 = _) (q7:Q3o w1 (v 7) W 166 t.causes.length (Q0h enc3 t.causes.length fun _=>zero3)) (q8:v 8 = _) (q9:v 9 = _) (q10:v 10 = _) (q11:Q3o w1 (v 11) W 83 t.gates.length (Q0h enc3 t.gates.length fun _=>zero3)) (q12:(fun v w'=>v 12 = .agg #[v 3,v 7,v 11]) v w1) (q13:(fun v w'=>∃ g,v 13 = .pointer (some ⟨g,0,none⟩) /\ W.heap.size <= g /\ Blk w' g 71 #[.slice none 0 0,.slice none 0 0,.slice none 0 0]) v w1);intro wl hT;obtain rfl:wl = w1:=hT;intro bb hbb;intro K hK;obtain ⟨g,hg,hgl,hb⟩:=q13;have o1:bb.eval (.tmp 3) = .pointer (some ⟨g,0,none⟩):=by rw [hbb]; dsimp only; (try simp (discharger:=decide) only [eval_put_ne]); rw [Q0a (by simp only [size_put]; exact (by decide:3 < 69))]; exact hg
  have o2:bb.eval (.tmp 20) = .agg #[v 3,v 7,v 11]:=by rw [hbb]; dsimp only; (try simp (discharger:=decide) only [eval_put_ne]); rw [Q0a (by simp only [size_put]; exact (by decide:20 < 69))]; exact q12
  obtain ⟨s3,e3⟩:=q3.shape;obtain ⟨s7,e7⟩:=q7.shape;obtain ⟨s11,e11⟩:=q11.shape;exact Q3q (.tmp 3) (.tmp 20) _ rfl Tryd.Q0z o1 o2 hb rfl rfl (by rw [e3,e7,e11]; intro u hu; simp only [List.mem_cons,List.not_mem_nil,or_false] at hu; rcases hu with rfl | rfl | rfl <;> rfl) (fun vv w' hb hl ho=>hK _ _ ⟨g,hg,hgl,hb,hl,ho⟩)
 case post =>
  intro v w1 hx (q0:v 0 = _) (q1:v 1 = _) (q2:v 2 = _) (q3:Q3o w1 (v 3) W 134 t.basics.length (Q0h enc2 t.basics.length fun _=>(emp,0))) (q4:v 4 = _) (q5:v 5 = _) (q6:v 6 = _) (q7:Q3o w1 (v 7) W 166 t.causes.length (Q0h enc3 t.causes.length fun _=>zero3)) (q8:v 8 = _) (q9:v 9 = _) (q10:v 10 = _) (q11:Q3o w1 (v 11) W 83 t.gates.length (Q0h enc3 t.gates.length fun _=>zero3)) (q12:(fun v w'=>v 12 = .agg #[v 3,v 7,v 11]) v w1) (q13:(fun v w'=>∃ g,v 13 = .pointer (some ⟨g,0,none⟩) /\ W.heap.size <= g /\ Blk w' g 71 #[.slice none 0 0,.slice none 0 0,.slice none 0 0]) v w1);intro w2 hE;replace hE:(fun v w1 w2=>∃ g,v 13 = .pointer (some ⟨g,0,none⟩) /\ W.heap.size <= g /\ Blk w2 g 71 #[v 3,v 7,v 11] /\ (∀ n,n <= g -> Below n w1 w2) /\ ∀ k,k ≠ g -> w2.heap[k]? = w1.heap[k]?) v w1 w2:=hE;simp only [Flow.acts,Act.put];go_simp;obtain ⟨g,hg,hgl,hbt,hlow,hoth⟩:=hE;obtain ⟨g',hg',_,hbt'⟩:=q13;rw [hg] at hg';obtain rfl:g = g':=by injection hg' with h; injection h with h; injection h
  obtain ⟨gb,e3,l3,b3⟩:=q3;obtain ⟨gc,e7,l7,b7⟩:=q7;obtain ⟨gg,e11,l11,b11⟩:=q11;rw [e3,e7,e11] at hbt;rw [hg,e3,e7,e11];have HBT:=Lib.hid hbt;have HBB:=Lib.hid (b3.only (Q0r b3 hbt' (by decide)) hoth)
  have HBC:=Lib.hid (b7.only (Q0r b7 hbt' (by decide)) hoth)
  have HBG:=Lib.hid (b11.only (Q0r b11 hbt' (by decide)) hoth)
  have HX2:=Lib.hid (Below.trans (hdr.trans hx) (hlow _ hgl));have hxw2:Ext W w2:=Below.trans (hdr.trans hx) (hlow _ hgl);have HT2:=Lib.hid (HT.out.ext hxw2);have k0:=K0.out.ext hxw2;have c0:=k0.cell 0;have c1:=k0.cell 1;have c2:=k0.cell 2;have d0:=hbt.cell 0;have d1:=hbt.cell 1;have d2:=hbt.cell 2;simp only [Go.Tw.gA,Go.Tw.gB,Go.Tw.gC] at c0 c1 c2 d0 d1 d2;clear hg hg' hbt' e3 e7 e11 b3 b7 b11 hbt hlow hoth hx hdr k0 q0 q1 q2 q4 q5 q6 q8 q9 q10 q12;go_wp2_with (refine Q7d rfl _ _ 67 67 rfl 134 Tryd.underlying67 Tryd.X7b rfl rfl HBB.out ((List.range t.basics.length).flatMap fun i=>enc2 (bF t i)) ?_ ?_ ?_ ?_ ?_; (focus (have:=Q0i Q0u t.basics.length (bF t); unfold Q0h at this; simpa using this)); (focus (exact X5g HT2.out.basics)); (focus (rw [Q0i Q0u]; have:=Q0i Q0u t.basics.length (bF t); unfold Q0h at this; simpa using Nat.le_of_eq this)); (focus (intro u hu; obtain ⟨i,_,hu⟩:=List.mem_flatMap.1 hu; simp only [enc2,List.mem_cons,List.not_mem_nil,or_false] at hu; rcases hu with rfl | rfl <;> rfl)); intro w3 hb3 hl3' ho3; refine halted ?_)
  have hbas:Q0v (Q0h enc2 t.basics.length fun _=>(emp,0)) 0 ((List.range t.basics.length).flatMap fun i=>enc2 (bF t i)) = Q0h enc2 t.basics.length (bF t):=by
   have h1:=Q0i Q0u t.basics.length (bF t);have h2:=Q0i Q0u t.basics.length (fun _=>(emp,0));rw [X1i]
   . rfl
   . rw [h2,<- h1]; unfold Q0h; simp
  rw [hbas] at hb3;have nbt:=Q0r HBT.out HBB.out (by decide)
  have nbc:=Q0r HBC.out HBB.out (by decide)
  have nbg:=Q0r HBG.out HBB.out (by decide)
  have HBT3:=Lib.hid (HBT.out.only nbt ho3);have HBC3:=Lib.hid (HBC.out.only nbc ho3);have HBG3:=Lib.hid (HBG.out.only nbg ho3);have HBB3:=Lib.hid hb3;have HX3:=Lib.hid (HX2.out.trans (hl3' _ l3));have hxw3:Ext W w3:=HX3.out;have HT3:=Lib.hid (HT.out.ext hxw3);have HX13:=Lib.hid (HXW.out.trans hxw3);have K03:=Lib.hid (K0.out.ext hxw3);have K13:=Lib.hid (K1.out.ext hxw3);have k0:=K03.out;replace c1:=k0.cell 1;simp only [Go.Tw.gA,Go.Tw.gB,Go.Tw.gC] at c1;clear c0 c2 d0 d1 d2 hbas hb3 hl3' ho3 hxw2 hxw3 nbt nbc nbg k0;unfold Q2v;go_wp2;have hcz:Q0h enc3 t.causes.length (fun _=>zero3) = Q0h enc3 t.causes.length (fun i=>if i < 0 then cF t (fun _=>undef) i else zero3):=Q1h fun i _=>by simp
  rw [hcz] at HBC3;clear hcz
  go_loopw [29] (fun i wr=>∃ (k:Nat) (mc:Nat -> Value),k <= t.causes.length /\ i = .int .i64 k /\ Blk wr gc 166 (Q0h enc3 t.causes.length fun i=>if i < k then cF t mc i else zero3) /\ (∀ i,i < k -> Q0f wr 0 3 (.int .i64) (mc i) (cMembers t.causes i)) /\ Blk wr g 71 #[.slice (some ⟨gb,0,none⟩) t.basics.length t.basics.length,.slice (some ⟨gc,0,none⟩) t.causes.length t.causes.length,.slice (some ⟨gg,0,none⟩) t.gates.length t.gates.length] /\ Blk wr gb 134 (Q0h enc2 t.basics.length (bF t)) /\ Blk wr gg 83 (Q0h enc3 t.gates.length fun _=>zero3) /\ Below W.heap.size W wr) (fun i _=>t.causes.length - (intOf i).toNat)
  case atStart=>exact ⟨0,fun _=>undef,Nat.zero_le _,rfl,HBC3.out,fun i hi=>by omega,HBT3.out,HBB3.out,HBG3.out,HX3.out⟩
  case round =>
   obtain ⟨k,mc,hk,rfl,hbc,hmc,hbt,hbb,hbg,hbel⟩:=hrel;have hwr:=hbel.size
   by_cases hlt:k < t.causes.length
   . obtain ⟨_,_,he0,_,_,hcc⟩:=HT.out.causes.opened
     cases he0;obtain ⟨b1,off,mv,rfl,hb1,e0,e1,e2,hM,hsh⟩:=hcc k hlt;replace e0:=hbel.cell (p:=⟨b1,off + k * 3,none⟩) hb1 |>.trans e0
     replace e1:=hbel.cell (p:=⟨b1,off + k * 3 + 1,none⟩) hb1 |>.trans e1
     replace e2:=hbel.cell (p:=⟨b1,off + k * 3 + 2,none⟩) hb1 |>.trans e2
     obtain ⟨A3,cap3,rfl,_,_,_⟩:=hM.opened;obtain ⟨nm,hnm⟩:∃ x,cName t.causes k = x:=⟨_,rfl⟩;obtain ⟨ch,hch⟩:∃ x,cChance t.causes k = x:=⟨_,rfl⟩;obtain ⟨ml,hml⟩:∃ x,cMembers t.causes k = x:=⟨_,rfl⟩;rw [hnm] at e0;rw [hch] at e1;rw [hml] at e2 hM;have HNM:=Lib.hid hnm;have HCH:=Lib.hid hch;have HML:=Lib.hid hml;have xb:=Ext.box wr (.cells #[.string nm,.int .i64 ch,.slice A3 ml.length cap3] 166);have kb:=Blk.made wr 166 #[.string nm,.int .i64 ch,.slice A3 ml.length cap3];have HM:=Lib.hid ((hM.ext hbel).ext xb);have HBC:=Lib.hid (hbc.ext xb);have HMC:Hid (∀ i,i < k -> Q0f (wr.alloc (.cells #[.string nm,.int .i64 ch,.slice A3 ml.length cap3] 166)) 0 3 (.int .i64) (mc i) (cMembers t.causes i)):=by exact fun i hi=>(hmc i hi).below xb
     have HBT:=Lib.hid (hbt.ext xb);have HBB:=Lib.hid (hbb.ext xb);have HBG:=Lib.hid (hbg.ext xb);have HBEL:=Lib.hid (hbel.trans (xb.mono hwr));have hs5:(wr.alloc (.cells #[.string nm,.int .i64 ch,.slice A3 ml.length cap3] 166)).heap.size = wr.heap.size + 1:=by simp
     have hgcl:=hbc.lt;have hkI:(k:Int) < t.causes.length:=by omega
     clear hbc hmc hbt hbb hbg hbel hcc hM hnm hch hml xb;go_wp2;obtain ⟨W5,hW5⟩:∃ X,wr.alloc (.cells #[.string nm,.int .i64 ch,.slice A3 ml.length cap3] 166) = X:=⟨_,rfl⟩;rw [hW5] at HM HBC HMC HBT HBB HBG HBEL kb hs5 ⊢;have KB:=Lib.hid kb;have hdr:=(Ext.refl W5).drew;clear hW5 kb e0 e1 e2;refine Flow.Q6x [.p,.w,.p,.p,.w,.p,.w,.p,.w,.w,.p,.p,.last] [0,1,2,3,4,5,6,7,8,9,10,11,12] [[],[0],[],[],[3],[],[5],[],[7],[7,8],[3,4,5,6,7,8,9],[0,1,2,3,4,5,6,7,8,9,10],[0,1,2,3,4,5,6,7,8,9,10,11]] [12]
      [.c 0 (.pointer (some ⟨g,1,none⟩)),.c 1 (.slice (some ⟨gc,0,none⟩) t.causes.length t.causes.length),.c 2 (.int .i64 k),.c 3 (.pointer (some ⟨wr.heap.size,0,none⟩)),.c 4 (.string nm),.c 5 (.pointer (some ⟨wr.heap.size,1,none⟩)),.c 6 (.int .i64 ch),.c 7 (.pointer (some ⟨wr.heap.size,2,none⟩)),.c 8 (.slice A3 ml.length cap3),⟨fun v wz=>(fun v w'=>Q0f w' 0 3 (.int .i64) (v 9) ml) v wz,fun _ _ _ hx h=>Q0f.below h hx⟩,⟨fun v wz=>(fun v w'=>v 10 = .agg #[.string nm,.int .i64 ch,v 9]) v wz,by intro _ _ _ _ h; exact h⟩,.c 11 (.pointer (some ⟨gc,k * 3,none⟩)),.none]
      [fun v w1 w2=>Blk w2 gc 166 (Q0v (Q0h enc3 t.causes.length fun i=>if i < k then cF t mc i else zero3) (k * 3) (enc3 (nm,ch,v 9))) /\ (∀ n,n <= gc -> Below n w1 w2) /\ ∀ k,k ≠ gc -> w2.heap[k]? = w1.heap[k]?] (by kernel_rfl) rfl (by kernel_rfl) ⟨?g0,?g1,?g2,?g3,?g4,?g5,?g6,?g7,?g8,?g9,?g10,?g11,?g12,trivial⟩ ?post
     case g0 | g2 | g3 | g5 | g7=>
      intro v w1 hx;intro bb hbb;subst hbb;refine ⟨_,fun w=>?_,rfl⟩;go_simp
     case g1 | g4 | g6 | g8=>
      intro v w1 hx;(repeat intro (zq:v _ = _));intro bb hbb;subst hbb;have n0:w1.cell? ⟨g,1,none⟩ = some (.slice (some ⟨gc,0,none⟩) t.causes.length t.causes.length):=(HBT.out.ext (hdr.trans hx)).cell 1;have n1:w1.cell? ⟨wr.heap.size,0,none⟩ = some (.string nm):=(KB.out.ext (hdr.trans hx)).cell 0;have n2:w1.cell? ⟨wr.heap.size,1,none⟩ = some (.int .i64 ch):=(KB.out.ext (hdr.trans hx)).cell 1;have n3:w1.cell? ⟨wr.heap.size,2,none⟩ = some (.slice A3 ml.length cap3):=(KB.out.ext (hdr.trans hx)).cell 2;intro K hK;go_simp;exact hK _ _ (Ext.refl _) rfl
     case g9=>
      intro v w1 hx;(repeat intro (zq:v _ = _));intro bb hbb;subst hbb;intro K hK;go_simp;refine Q0b (clone_any w1 _ _ (HM.out.ext (hdr.trans hx))) ?_;rintro e w2 ⟨u,rfl,hown,hx2⟩;exact ⟨_,rfl,hK _ _ hx2 hown⟩
     case g10=>
      intro v w1 hx (q3:v 3 = _) (q4:v 4 = _) (q5:v 5 = _) (q6:v 6 = _) (q7:v 7 = _) (q8:v 8 = _) (q9:(fun v w'=>Q0f w' 0 3 (.int .i64) (v 9) ml) v w1);intro bb hbb;obtain ⟨s9,c9,e9,_⟩:=Q0f.shape q9;have o1:bb.eval (.tmp 38) = .string nm:=by rw [hbb]; dsimp only; (try simp (discharger:=decide) only [eval_put_ne]); rw [Q0a (by simp only [size_put]; exact (by decide:38 < 69))]; exact q4
      have o2:bb.eval (.tmp 40) = .int .i64 ch:=by rw [hbb]; dsimp only; (try simp (discharger:=decide) only [eval_put_ne]); rw [Q0a (by simp only [size_put]; exact (by decide:40 < 69))]; exact q6
      have o3:bb.eval (.tmp 43) = v 9:=by rw [hbb]; dsimp only; (try simp (discharger:=decide) only [eval_put_ne]); rw [Q0a (by simp only [size_put]; exact (by decide:43 < 69))]
      rw [e9] at o3;exact ⟨_,fun w=>Q5s _ (.tmp 38) (.tmp 40) (.tmp 43) rfl o1 o2 o3 (fun w=>Q7t w _ _ _ _ _),by show Value.agg #[.string nm,.int .i64 ch,.slice s9 ml.length c9] = Value.agg #[.string nm,.int .i64 ch,v 9]; rw [e9]⟩
     case g11=>
      intro v w1 hx (q0:v 0 = _) (q1:v 1 = _) (q2:v 2 = _) (q3:v 3 = _) (q4:v 4 = _) (q5:v 5 = _) (q6:v 6 = _) (q7:v 7 = _) (q8:v 8 = _) _ _;intro bb hbb;subst hbb;refine ⟨_,fun w=>?_,rfl⟩;go_simp
     case g12=>
      intro v w1 hx (q0:v 0 = _) (q1:v 1 = _) (q2:v 2 = _) (q3:v 3 = _) (q4:v 4 = _) (q5:v 5 = _) (q6:v 6 = _) (q7:v 7 = _) (q8:v 8 = _) (q9:(fun v w'=>Q0f w' 0 3 (.int .i64) (v 9) ml) v w1) (q10:(fun v w'=>v 10 = .agg #[.string nm,.int .i64 ch,v 9]) v w1) (q11:v 11 = _);intro wl hT;obtain rfl:wl = w1:=hT;intro bb hbb;intro K hK;obtain ⟨s9,c9,e9,_⟩:=Q0f.shape q9;have o1:bb.eval (.tmp 45) = .pointer (some ⟨gc,k * 3,none⟩):=by rw [hbb]; dsimp only; (try simp (discharger:=decide) only [eval_put_ne]); rw [Q0a (by simp only [size_put]; exact (by decide:45 < 69))]; exact q11
      have o2:bb.eval (.tmp 44) = .agg #[.string nm,.int .i64 ch,v 9]:=by rw [hbb]; dsimp only; (try simp (discharger:=decide) only [eval_put_ne]); rw [Q0a (by simp only [size_put]; exact (by decide:44 < 69))]; exact q10
      exact Q3k (.tmp 45) (.tmp 44) _ rfl Tryd.X6u o1 o2 (HBC.out.ext (hdr.trans hx)) (by rw [Q0i Q0t]; omega) rfl (by rw [e9]; intro u hu; simp only [List.mem_cons,List.not_mem_nil,or_false] at hu; rcases hu with rfl | rfl | rfl <;> rfl) (fun vv w' hb hl ho=>hK _ _ ⟨hb,hl,ho⟩)
     case post =>
      intro v w1 hx;(iterate 9 intro (zq:v _ = _));intro (q9:(fun v w'=>Q0f w' 0 3 (.int .i64) (v 9) ml) v w1) (q10:(fun v w'=>v 10 = .agg #[.string nm,.int .i64 ch,v 9]) v w1);(iterate 1 intro (zq:v _ = _));intro w2 hE;replace hE:(fun v w1 w2=>Blk w2 gc 166 (Q0v (Q0h enc3 t.causes.length fun i=>if i < k then cF t mc i else zero3) (k * 3) (enc3 (nm,ch,v 9))) /\ (∀ n,n <= gc -> Below n w1 w2) /\ ∀ k,k ≠ gc -> w2.heap[k]? = w1.heap[k]?) v w1 w2:=hE
      simp only [Flow.acts,Act.put];go_simp;obtain ⟨hb6,hlow,hoth⟩:=hE;rw [X0m Q0t _ hlt] at hb6;obtain ⟨vm,hvm⟩:∃ x,v 9 = x:=⟨_,rfl⟩;have hfc:Q0h enc3 t.causes.length (fun j=>if j = k then (nm,ch,v 9) else if j < k then cF t mc j else zero3) = Q0h enc3 t.causes.length (fun i=>if i < k + 1 then cF t (fun j=>if j = k then v 9 else mc j) i else zero3):=Q1h fun j _=>by
       by_cases hj:j = k
       . subst hj; simp [cF,HNM.out,HCH.out]
       . by_cases hj2:j < k
         . rw [if_neg hj,if_pos hj2,if_pos (by omega)]; simp [cF,hj]
         . rw [if_neg hj,if_neg hj2,if_neg (by omega)]
      rw [hfc] at hb6;have hxx:=hdr.trans hx;have hbc1:=HBC.out.ext hxx;have HRES:Hid (∀ i,i < k + 1 -> Q0f w2 0 3 (.int .i64) (if i = k then v 9 else mc i) (cMembers t.causes i)):=Lib.hid (fun i hi=>by
       by_cases hik:i = k
       . subst hik
         rw [if_pos rfl,HML.out];exact Q1r q9 hbc1 (by decide) hoth
       . rw [if_neg hik]
         exact Q1r ((HMC.out i (by omega)).below hxx) hbc1 (by decide) hoth)
      have HB6:=Lib.hid hb6;have HT6:=Lib.hid ((HBT.out.ext hxx).only (Q0r (HBT.out.ext hxx) hbc1 (by decide)) hoth)
      have HBB6:=Lib.hid ((HBB.out.ext hxx).only (Q0r (HBB.out.ext hxx) hbc1 (by decide)) hoth)
      have HBG6:=Lib.hid ((HBG.out.ext hxx).only (Q0r (HBG.out.ext hxx) hbc1 (by decide)) hoth)
      have HBEL6:=Lib.hid ((HBEL.out.trans (hxx.mono HBEL.out.size)).trans (hlow _ l7));clear hb6 hlow hoth hfc hxx hx hbc1 q9 q10 hvm;(repeat clear zq);go_wp2;go_roundw
      case rel=>exact ⟨k + 1,fun j=>if j = k then v 9 else mc j,by omega,by go_num,HB6.out,HRES.out,HT6.out,HBB6.out,HBG6.out,HBEL6.out⟩
      case measure=>simp [intOf]; omega
   . have e:k = t.causes.length:=by omega
     subst e;have hcd:Q0h enc3 t.causes.length (fun i=>if i < t.causes.length then cF t mc i else zero3) = Q0h enc3 t.causes.length (cF t mc):=Q1h fun i hi=>by rw [if_pos hi]
     rw [hcd] at hbc;have hgz:Q0h enc3 t.gates.length (fun _=>zero3) = Q0h enc3 t.gates.length (fun i=>if i < 0 then gF t (fun _=>undef) i else zero3):=Q1h fun i _=>by simp
     rw [hgz] at hbg;have HC4:=Lib.hid hbc;have HMC4:=Lib.hid hmc;have HT4:=Lib.hid hbt;have HB4:=Lib.hid hbb;have HG4:=Lib.hid hbg;have HX4:=Lib.hid hbel;have K14:=Lib.hid (K1.out.below hbel K1.out.lt);have hxw4:Ext W wr:=hbel;have k0:=K0.out.ext hxw4;have c2:=k0.cell 2;simp only [Go.Tw.gA,Go.Tw.gB,Go.Tw.gC] at c2;clear hcd hgz hbc hmc hbt hbb hbg hbel hxw4 k0;go_wp2;clear c2
     go_loopw [50] (fun i wr=>∃ (k:Nat) (mg:Nat -> Value),k <= t.gates.length /\ i = .int .i64 k /\ Blk wr gg 83 (Q0h enc3 t.gates.length fun i=>if i < k then gF t mg i else zero3) /\ (∀ i,i < k -> Q0f wr 0 3 (.int .i64) (mg i) (gInputs t.gates i)) /\ Blk wr g 71 #[.slice (some ⟨gb,0,none⟩) t.basics.length t.basics.length,.slice (some ⟨gc,0,none⟩) t.causes.length t.causes.length,.slice (some ⟨gg,0,none⟩) t.gates.length t.gates.length] /\ Blk wr gb 134 (Q0h enc2 t.basics.length (bF t)) /\ Blk wr gc 166 (Q0h enc3 t.causes.length (cF t mc)) /\ (∀ i,i < t.causes.length -> Q0f wr 0 3 (.int .i64) (mc i) (cMembers t.causes i)) /\ Below W.heap.size W wr) (fun i _=>t.gates.length - (intOf i).toNat)
     case atStart=>exact ⟨0,fun _=>undef,Nat.zero_le _,rfl,HG4.out,fun i hi=>by omega,HT4.out,HB4.out,HC4.out,HMC4.out,HX4.out⟩
     case round =>
      obtain ⟨k,mg,hk,rfl,hbc,hmc,hbt,hbb,hbg,hmo,hbel⟩:=hrel;have hwr:=hbel.size
      by_cases hlt:k < t.gates.length
      . obtain ⟨_,_,he0,_,_,hcc⟩:=HT.out.gates.opened
        cases he0;obtain ⟨b1,off,mv,rfl,hb1,e0,e1,e2,hM,hsh⟩:=hcc k hlt;replace e0:=hbel.cell (p:=⟨b1,off + k * 3,none⟩) hb1 |>.trans e0
        replace e1:=hbel.cell (p:=⟨b1,off + k * 3 + 1,none⟩) hb1 |>.trans e1
        replace e2:=hbel.cell (p:=⟨b1,off + k * 3 + 2,none⟩) hb1 |>.trans e2
        obtain ⟨A3,cap3,rfl,_,_,_⟩:=hM.opened;obtain ⟨nm,hnm⟩:∃ x,gKind t.gates k = x:=⟨_,rfl⟩;obtain ⟨ch,hch⟩:∃ x,gNeed t.gates k = x:=⟨_,rfl⟩;obtain ⟨ml,hml⟩:∃ x,gInputs t.gates k = x:=⟨_,rfl⟩;rw [hnm] at e0;rw [hch] at e1;rw [hml] at e2 hM;have HNM:=Lib.hid hnm;have HCH:=Lib.hid hch;have HML:=Lib.hid hml;have xb:=Ext.box wr (.cells #[.string nm,.int .i64 ch,.slice A3 ml.length cap3] 83);have kb:=Blk.made wr 83 #[.string nm,.int .i64 ch,.slice A3 ml.length cap3];have HM:=Lib.hid ((hM.ext hbel).ext xb);have HBC:=Lib.hid (hbc.ext xb);have HMC:Hid (∀ i,i < k -> Q0f (wr.alloc (.cells #[.string nm,.int .i64 ch,.slice A3 ml.length cap3] 83)) 0 3 (.int .i64) (mg i) (gInputs t.gates i)):=by exact fun i hi=>(hmc i hi).below xb
        have HBT:=Lib.hid (hbt.ext xb);have HBB:=Lib.hid (hbb.ext xb);have HBG:=Lib.hid (hbg.ext xb);have HMO:Hid (∀ i,i < t.causes.length -> Q0f (wr.alloc (.cells #[.string nm,.int .i64 ch,.slice A3 ml.length cap3] 83)) 0 3 (.int .i64) (mc i) (cMembers t.causes i)):=by exact fun i hi=>(hmo i hi).below xb
        have HBEL:=Lib.hid (hbel.trans (xb.mono hwr));have hs5:(wr.alloc (.cells #[.string nm,.int .i64 ch,.slice A3 ml.length cap3] 83)).heap.size = wr.heap.size + 1:=by simp
        have hgcl:=hbc.lt;have hkI:(k:Int) < t.gates.length:=by omega
        clear hbc hmc hbt hbb hbg hmo hbel hcc hM hnm hch hml xb;go_wp2;obtain ⟨W5,hW5⟩:∃ X,wr.alloc (.cells #[.string nm,.int .i64 ch,.slice A3 ml.length cap3] 83) = X:=⟨_,rfl⟩;rw [hW5] at HM HBC HMC HMO HBT HBB HBG HBEL kb hs5 ⊢;have KB:=Lib.hid kb;have hdr:=(Ext.refl W5).drew;clear hW5 kb e0 e1 e2;refine Flow.Q6x [.p,.w,.p,.p,.w,.p,.w,.p,.w,.w,.p,.p,.last] [0,1,2,3,4,5,6,7,8,9,10,11,12] [[],[0],[],[],[3],[],[5],[],[7],[7,8],[3,4,5,6,7,8,9],[0,1,2,3,4,5,6,7,8,9,10],[0,1,2,3,4,5,6,7,8,9,10,11]] [12]
         [.c 0 (.pointer (some ⟨g,2,none⟩)),.c 1 (.slice (some ⟨gg,0,none⟩) t.gates.length t.gates.length),.c 2 (.int .i64 k),.c 3 (.pointer (some ⟨wr.heap.size,0,none⟩)),.c 4 (.string nm),.c 5 (.pointer (some ⟨wr.heap.size,1,none⟩)),.c 6 (.int .i64 ch),.c 7 (.pointer (some ⟨wr.heap.size,2,none⟩)),.c 8 (.slice A3 ml.length cap3),⟨fun v wz=>(fun v w'=>Q0f w' 0 3 (.int .i64) (v 9) ml) v wz,fun _ _ _ hx h=>Q0f.below h hx⟩,⟨fun v wz=>(fun v w'=>v 10 = .agg #[.string nm,.int .i64 ch,v 9]) v wz,by intro _ _ _ _ h; exact h⟩,.c 11 (.pointer (some ⟨gg,k * 3,none⟩)),.none]
         [fun v w1 w2=>Blk w2 gg 83 (Q0v (Q0h enc3 t.gates.length fun i=>if i < k then gF t mg i else zero3) (k * 3) (enc3 (nm,ch,v 9))) /\ (∀ n,n <= gg -> Below n w1 w2) /\ ∀ k,k ≠ gg -> w2.heap[k]? = w1.heap[k]?] (by kernel_rfl) rfl (by kernel_rfl) ⟨?g0,?g1,?g2,?g3,?g4,?g5,?g6,?g7,?g8,?g9,?g10,?g11,?g12,trivial⟩ ?post
        case g0 | g2 | g3 | g5 | g7=>
         intro v w1 hx;intro bb hbb;subst hbb;refine ⟨_,fun w=>?_,rfl⟩;go_simp
        case g1 | g4 | g6 | g8=>
         intro v w1 hx;(repeat intro (zq:v _ = _));intro bb hbb;subst hbb;have n0:w1.cell? ⟨g,2,none⟩ = some (.slice (some ⟨gg,0,none⟩) t.gates.length t.gates.length):=(HBT.out.ext (hdr.trans hx)).cell 2;have n1:w1.cell? ⟨wr.heap.size,0,none⟩ = some (.string nm):=(KB.out.ext (hdr.trans hx)).cell 0;have n2:w1.cell? ⟨wr.heap.size,1,none⟩ = some (.int .i64 ch):=(KB.out.ext (hdr.trans hx)).cell 1;have n3:w1.cell? ⟨wr.heap.size,2,none⟩ = some (.slice A3 ml.length cap3):=(KB.out.ext (hdr.trans hx)).cell 2;intro K hK;go_simp;exact hK _ _ (Ext.refl _) rfl
        case g9=>
         intro v w1 hx;(repeat intro (zq:v _ = _));intro bb hbb;subst hbb;intro K hK;go_simp;refine Q0b (clone_any w1 _ _ (HM.out.ext (hdr.trans hx))) ?_;rintro e w2 ⟨u,rfl,hown,hx2⟩;exact ⟨_,rfl,hK _ _ hx2 hown⟩
        case g10=>
         intro v w1 hx (q3:v 3 = _) (q4:v 4 = _) (q5:v 5 = _) (q6:v 6 = _) (q7:v 7 = _) (q8:v 8 = _) (q9:(fun v w'=>Q0f w' 0 3 (.int .i64) (v 9) ml) v w1);intro bb hbb;obtain ⟨s9,c9,e9,_⟩:=Q0f.shape q9;have o1:bb.eval (.tmp 59) = .string nm:=by rw [hbb]; dsimp only; (try simp (discharger:=decide) only [eval_put_ne]); rw [Q0a (by simp only [size_put]; exact (by decide:59 < 69))]; exact q4
         have o2:bb.eval (.tmp 61) = .int .i64 ch:=by rw [hbb]; dsimp only; (try simp (discharger:=decide) only [eval_put_ne]); rw [Q0a (by simp only [size_put]; exact (by decide:61 < 69))]; exact q6
         have o3:bb.eval (.tmp 64) = v 9:=by rw [hbb]; dsimp only; (try simp (discharger:=decide) only [eval_put_ne]); rw [Q0a (by simp only [size_put]; exact (by decide:64 < 69))]
         rw [e9] at o3;exact ⟨_,fun w=>Q5s _ (.tmp 59) (.tmp 61) (.tmp 64) rfl o1 o2 o3 (fun w=>Q8k w _ _ _ _ _),by show Value.agg #[.string nm,.int .i64 ch,.slice s9 ml.length c9] = Value.agg #[.string nm,.int .i64 ch,v 9]; rw [e9]⟩
        case g11=>
         intro v w1 hx (q0:v 0 = _) (q1:v 1 = _) (q2:v 2 = _) (q3:v 3 = _) (q4:v 4 = _) (q5:v 5 = _) (q6:v 6 = _) (q7:v 7 = _) (q8:v 8 = _) _ _;intro bb hbb;subst hbb;refine ⟨_,fun w=>?_,rfl⟩;go_simp
        case g12=>
         intro v w1 hx (q0:v 0 = _) (q1:v 1 = _) (q2:v 2 = _) (q3:v 3 = _) (q4:v 4 = _) (q5:v 5 = _) (q6:v 6 = _) (q7:v 7 = _) (q8:v 8 = _) (q9:(fun v w'=>Q0f w' 0 3 (.int .i64) (v 9) ml) v w1) (q10:(fun v w'=>v 10 = .agg #[.string nm,.int .i64 ch,v 9]) v w1) (q11:v 11 = _);intro wl hT;obtain rfl:wl = w1:=hT;intro bb hbb;intro K hK;obtain ⟨s9,c9,e9,_⟩:=Q0f.shape q9;have o1:bb.eval (.tmp 66) = .pointer (some ⟨gg,k * 3,none⟩):=by rw [hbb]; dsimp only; (try simp (discharger:=decide) only [eval_put_ne]); rw [Q0a (by simp only [size_put]; exact (by decide:66 < 69))]; exact q11
         have o2:bb.eval (.tmp 65) = .agg #[.string nm,.int .i64 ch,v 9]:=by rw [hbb]; dsimp only; (try simp (discharger:=decide) only [eval_put_ne]); rw [Q0a (by simp only [size_put]; exact (by decide:65 < 69))]; exact q10
         exact Q3k (.tmp 66) (.tmp 65) _ rfl Tryd.X3y o1 o2 (HBC.out.ext (hdr.trans hx)) (by rw [Q0i Q0t]; omega) rfl (by rw [e9]; intro u hu; simp only [List.mem_cons,List.not_mem_nil,or_false] at hu; rcases hu with rfl | rfl | rfl <;> rfl) (fun vv w' hb hl ho=>hK _ _ ⟨hb,hl,ho⟩)
        case post =>
         intro v w1 hx;(iterate 9 intro (zq:v _ = _));intro (q9:(fun v w'=>Q0f w' 0 3 (.int .i64) (v 9) ml) v w1) (q10:(fun v w'=>v 10 = .agg #[.string nm,.int .i64 ch,v 9]) v w1);(iterate 1 intro (zq:v _ = _));intro w2 hE;replace hE:(fun v w1 w2=>Blk w2 gg 83 (Q0v (Q0h enc3 t.gates.length fun i=>if i < k then gF t mg i else zero3) (k * 3) (enc3 (nm,ch,v 9))) /\ (∀ n,n <= gg -> Below n w1 w2) /\ ∀ k,k ≠ gg -> w2.heap[k]? = w1.heap[k]?) v w1 w2:=hE
         simp only [Flow.acts,Act.put];go_simp;obtain ⟨hb6,hlow,hoth⟩:=hE;rw [X0m Q0t _ hlt] at hb6;obtain ⟨vm,hvm⟩:∃ x,v 9 = x:=⟨_,rfl⟩;have hfc:Q0h enc3 t.gates.length (fun j=>if j = k then (nm,ch,v 9) else if j < k then gF t mg j else zero3) = Q0h enc3 t.gates.length (fun i=>if i < k + 1 then gF t (fun j=>if j = k then v 9 else mg j) i else zero3):=Q1h fun j _=>by
          by_cases hj:j = k
          . subst hj; simp [gF,HNM.out,HCH.out]
          . by_cases hj2:j < k
            . rw [if_neg hj,if_pos hj2,if_pos (by omega)]; simp [gF,hj]
            . rw [if_neg hj,if_neg hj2,if_neg (by omega)]
         rw [hfc] at hb6;have hxx:=hdr.trans hx;have hbc1:=HBC.out.ext hxx;have HRES:Hid (∀ i,i < k + 1 -> Q0f w2 0 3 (.int .i64) (if i = k then v 9 else mg i) (gInputs t.gates i)):=Lib.hid (fun i hi=>by
          by_cases hik:i = k
          . subst hik
            rw [if_pos rfl,HML.out];exact Q1r q9 hbc1 (by decide) hoth
          . rw [if_neg hik]
            exact Q1r ((HMC.out i (by omega)).below hxx) hbc1 (by decide) hoth)
         have HB6:=Lib.hid hb6;have HT6:=Lib.hid ((HBT.out.ext hxx).only (Q0r (HBT.out.ext hxx) hbc1 (by decide)) hoth)
         have HBB6:=Lib.hid ((HBB.out.ext hxx).only (Q0r (HBB.out.ext hxx) hbc1 (by decide)) hoth)
         have HBG6:=Lib.hid ((HBG.out.ext hxx).only (Q0r (HBG.out.ext hxx) hbc1 (by decide)) hoth)
         have HMO6:Hid (∀ i,i < t.causes.length -> Q0f w2 0 3 (.int .i64) (mc i) (cMembers t.causes i)):=by exact fun i hi=>Q1r ((HMO.out i hi).below hxx) hbc1 (by decide) hoth
         have HBEL6:=Lib.hid ((HBEL.out.trans (hxx.mono HBEL.out.size)).trans (hlow _ l11));clear hb6 hlow hoth hfc hxx hx hbc1 q9 q10 hvm;(repeat clear zq);go_wp2;go_roundw
         case rel=>exact ⟨k + 1,fun j=>if j = k then v 9 else mg j,by omega,by go_num,HB6.out,HRES.out,HT6.out,HBB6.out,HBG6.out,HMO6.out,HBEL6.out⟩
         case measure=>simp [intOf]; omega
      . have e:k = t.gates.length:=by omega
        subst e;have hcd:Q0h enc3 t.gates.length (fun i=>if i < t.gates.length then gF t mg i else zero3) = Q0h enc3 t.gates.length (gF t mg):=Q1h fun i hi=>by rw [if_pos hi]
        rw [hcd] at hbc;have HOT:Hid (Y1y wr W.heap.size t gb gc gg mc mg):=by exact ⟨hbb,hbg,hbc,hmo,hmc,l3,l7,l11⟩
        have HBTT:=Lib.hid hbt;have HBELT:=Lib.hid hbel;have K1T:=Lib.hid (K1.out.below hbel K1.out.lt);have hkt:=K1.out.lt;clear hcd hbc hmc hbt hbb hbg hmo hbel;go_wp2_with (first | (refine Q0q rfl _ 71 rfl Tryd.Q3h Tryd.Q0z rfl HBTT.out rfl ?_) | (refine Q0j rfl _ _ 71 rfl Tryd.Q0z rfl rfl K1T.out rfl rfl ?_ ?_; (focus (intro u hu; simp only [List.mem_cons,List.not_mem_nil,or_false] at hu; rcases hu with rfl | rfl | rfl <;> rfl)); intro w8 hb8 hl8 ho8))
        refine bodyPost_ret (Q3i Tryd.results73 rfl hb8 Tryd.Q3h Tryd.Q0z) rfl ?_;have hOT:=HOT.out;have hne1:=Q0r hOT.bas K1T.out (by decide)
        have hne2:=Q0r hOT.cau K1T.out (by decide)
        have hne3:=Q0r hOT.gat K1T.out (by decide)
        refine ⟨gb,gc,gg,mc,mg,rfl,⟨hOT.bas.only hne1 ho8,hOT.cau.only hne2 ho8,hOT.gat.only hne3 ho8,fun i hi=>Q1r (hOT.mem i hi) K1T.out (by decide) ho8,fun i hi=>Q1r (hOT.inp i hi) K1T.out (by decide) ho8,?_,?_,?_⟩,Below.trans (Ext.trans HXW.out HBELT.out) (hl8 _ (by omega))⟩
        . have:=HXW.out.size; have:=hOT.b; omega
        . have:=HXW.out.size; have:=hOT.c; omega
        . have:=HXW.out.size; have:=hOT.g; omega
end Go.Proofs
