/- A whole load of a block inside a drawn region. Contracts of the basin: barrier, over, and the flows of the other kinds. Steps and runs of a basin, plain: a run with greater volumes, tides and inflows is greater; the latest closing is safe for each permitted run. No program in sight. The basin as plain lists, and what a value reads as. No program in sight but the types' marks. A step of the basin on lists, as the program makes it; its bounds, and that it is Go.Ba's step. No program in sight. Contract of the basin: the addition within a step (a closure over the volumes and whether all is fine). Maps with string keys that a call makes, as lists of pairs: look-ups and stores. Contract of the basin: the table of kinds (a map of structs that hold functions). Bounds of the volumes within a step. No program in sight. Facts for a step: the flow of a kind, its call, the field of a kind, what an addition keeps. Contracts of small functions of the basin: when, first, within, mapped over integers, checkTide, checkInflow. Contracts of the basin: checkVolumes, the level of a node. Contracts of the basin: the check of a valid link. The closings of a policy as the reference makes them (each rule that fits is put behind) are those of the specification: plain lists, no program is in sight. Contract of the reference: closings. Contract of the reference: Play. Contracts of the reference: Closings, Delay. The contract of the reference's Lowest. The groups as the reference makes them are those of the specification: plain lists, no program is in sight. Contract of the reference: coded. Contracts of the reference: Short, ShortPolicy, ShortGroups. Contract: CheckSeason. Loads of a part of a block (as for the faults, without their chain of texts). Contracts of the basin: the check of a valid link. Contracts of the basin: the checks of all links. -/
import Derived.Test.YtodinjclfmiohaaGreatKc01
import Derived.Test.YtodinjclfmiohaaGreatKc02
import Derived.Maps.OwnSet
import Derived.MapKept
import Derived.Deep.DeepMust
import Derived.Deep.DeepCutAuto
import Derived.ChangeKeysEq
import Derived.BigFrameIn
import Derived.OwnWalkIn
import Derived.Laws.StructEq
set_option maxRecDepth 1000000
set_option maxHeartbeats 64000000
set_option linter.unusedVariables false
set_option linter.unusedSimpArgs false
set_option linter.constructorNameAsVariable false
namespace Go.Proofs
open Go.RowKit Go.Tw Go.Flow
theorem Q0x {P:Program} {K:Value -> World -> Prop} {o:Oper} {a:Act} {w:World} (p:Operand) (T:TypeId) (ho:o.op = .load T p) (hA:∀ w,(isAgg T).run P w = .ok true w) {n:Nat} (hS:∀ w,(sizeOf T).run P w = .ok n w)
    {g:Nat} (hp:a.eval p = .pointer (some ⟨g,0,none⟩)) {BT:TypeId} {cs:Array Value} (hb:Blk w g BT cs) (hn:cs.size = n) (h:K (.agg cs) w):gives P K ((execOp a.eval o).run P w):=by
 subst hn;unfold execOp;simp only [ho,hp,Instr.loadAt,Instr.sureAddr,Sem.run_bind,Sem.run_pure,Result.andThen_ok,Q4x hb hA hS];exact h
theorem Q1y {P:Program} {K:Value -> World -> Prop} {o:Oper} {a:Act} {w:World} (p x:Operand) (T:TypeId) (ho:o.op = .store T p x)
    {n:Nat} (hS:∀ w,(sizeOf T).run P w = .ok n w) {g:Nat} (hp:a.eval p = .pointer (some ⟨g,0,none⟩)) {BT:TypeId} {cs vs:Array Value} (hx:a.eval x = .agg vs) (hb:Blk w g BT cs) (hn:cs.size = n) (hv:vs.size = n) (h1:∀ u ∈ vs.toList,u.oneCell' = true)
    (h:∀ v w',Blk w' g BT vs -> (∀ n,n <= g -> Below n w w') -> (∀ k,k ≠ g -> w'.heap[k]? = w.heap[k]?) -> K v w'):gives P K ((execOp a.eval o).run P w):=by
 obtain ⟨w',hr,hb',hl,hoo⟩:=Q9m (P:=P) vs.toList 0 w cs hb h1 (by simp [hn,hv])
 have hs:(storeVar T ⟨g,0,none⟩ (.agg vs)).run P w = .ok () w':=by
  have hc:(Value.agg vs).cells = vs:=rfl;unfold storeVar;simp only [Sem.run_bind,hS,Result.andThen_ok];rw [if_neg (by rw [hc]; simp [hv])]
  exact hr
 have hr2:(execOp a.eval o).run P w = .ok .skip w':=by
  unfold execOp;simp only [ho,hp,hx,Instr.storeAt,Instr.sureAddr,Sem.run_bind,Sem.run_pure,Result.andThen_ok,hs]
 rw [hr2];exact h _ _ (by simpa using hb') hl hoo
theorem Q1g {P:Program} {w:World} {ops:Array Oper} {rest:List Oper} {o:Oper} {a:Act} {Q:Exit -> Act -> World -> Prop} (hg:o.guard = none)
    (h:gives P (fun u w'=>wpList P ops Q rest (a.put o.dst u) w') ((execOp a.eval o).run P w)):wpList P ops Q (o :: rest) a w :=
 wpList_plain hg fun K' hK'=>by
  unfold Oper.wp;exact Q1l (Q3k (fun _ _ hk=>hK' _ _ hk) h)
theorem X5i {K:Value -> World -> Prop} {o:Oper} {a:Act} {w:World} (x:Operand) (t e:TypeId) (ho:o.op = .makeSlice t x x) (i:TypeInfo) (z:Value) (k bytes:Nat) (ht:Tryz.prog.underlying t = some (.slice e)) (hi:Tryz.prog.info? e = some i) (hz:i.zero = some z) (hs:i.size = k) (hby:i.bytes = bytes)
    (n:Nat) (hx:a.eval x = .int .i64 n) (hn:n <= 1000) (hb:bytes <= 1000)
    (h:K (.slice (some ⟨w.heap.size,0,none⟩) n n) (w.alloc (.cells (madeCells z.cells (n * k)) e))):gives Tryz.prog K ((execOp a.eval o).run Tryz.prog w):=by
 have hnb:bytes * n <= 1000 * 1000:=Nat.mul_le_mul hb hn;have hr:=run_make (P:=Tryz.prog) w t e i z ht hi hz .i64 .i64 n n (by omega) (Int.le_refl _) (by rw [hby]; have:((bytes * n:Nat):Int) <= 1000000:=(by omega); rw [Int.natCast_mul] at this; omega) (by omega)
 simp only [Int.toNat_natCast,hs] at hr;unfold execOp;simp only [ho,hx,Sem.run_bind,hr,Result.andThen_ok,Sem.run_pure];exact h
theorem X5d {P:Program} {w:World} {ops:Array Oper} {rest:List Oper} {o:Oper} {a:Act} {Q:Exit -> Act -> World -> Prop} (hg:o.guard = none) (p x:Operand) (T:TypeId) (hop:o.op = .store T p x)
    (hT:∀ w,(sizeOf T).run P w = .ok 1 w) {g k:Nat} (hp:a.eval p = .pointer (some ⟨g,k,none⟩)) {u:Value} (hx:a.eval x = u) (hu:u.cells = #[u]) (h1:u.oneCell' = true) {BT:TypeId} {cs:Array Value} (hb:Blk w g BT cs) (hk:k < cs.size)
    (hK:∀ w',Blk w' g BT (cs.setIfInBounds k u) -> (∀ n,n <= g -> Below n w w') -> (∀ k,k ≠ g -> w'.heap[k]? = w.heap[k]?) -> wpList P ops Q rest (a.put o.dst undef) w'):wpList P ops Q (o :: rest) a w:=by
 refine wpList_plain hg fun K' hK'=>?_;unfold Oper.wp;have h0:=hb.cell k;rw [Array.getElem?_eq_getElem hk] at h0;have hs:(storeVar T ⟨g,k,none⟩ u).run P w = .ok () (w.setCell ⟨g,k,none⟩ u):=by
  unfold storeVar;simp only [Sem.run_bind,hT,Result.andThen_ok,hu];rw [if_neg (by simp)]
  simp only [storeCells,Sem.run_bind,Sem.run_pure];have ea:(⟨g,k,none⟩:Addr).add 0 = ⟨g,k,none⟩:=by rw [addr_add,Nat.add_zero]
  rw [ea,run_store P w _ u _ h1];simp only [h0,hb.frozen k,Bool.false_eq_true,if_false,Result.andThen_ok]
 have hr2:(execOp a.eval o).run P w = .ok .skip (w.setCell ⟨g,k,none⟩ u):=by
  unfold execOp;simp only [hop,hp,hx,Instr.storeAt,Instr.sureAddr,Sem.run_bind,Sem.run_pure,Result.andThen_ok,hs]
 rw [hr2];exact hK' _ _ (hK _ (hb.set k u) (fun n hn=>(Below.refl n w).setCell (p:=⟨g,k,none⟩) hn u) (fun k' hk'=>Below.heap_setCell _ _ _ _ hk'))
end Go.Proofs
namespace Go.Proofs
open Go.RowKit Go.Tw Go.Flow
attribute [local go_sem] Oper.semAt_some
theorem Tryz.Y7t (w:World):(isAgg 305).run Tryz.prog w = .ok true w:=by kernel_rfl
theorem Tryz.Y0s (w:World):(sizeOf 305).run Tryz.prog w = .ok 9 w:=by kernel_rfl
theorem Z2n (w:World) (kd:ByteArray) (f t a r u ar td:Int) (o:Bool) (hb:PlB a r u ar td) :
    Calls Tryz.prog 200 #[plV kd f t a r u ar td o] w fun e w'=>e = .returned (.int .i64 (if o then max (-u) ((ar * td - u) / r) else 0)) /\ Ext w w':=by
 have HPB:=Lib.hid hb;have hv:=hb.v;have w1:IntKind.i64.wrap (-u) = -u:=Q2r (by omega) (by omega)
 clear hv hb;cases o with
 | false =>
   have hbox:=Ext.box w (.cells (plC kd f t a r u ar td false) 305);have K0:=Blk.made w 305 (plC kd f t a r u ar td false);have c0:=(K0).cell 0;have c1:=(K0).cell 1;have c2:=(K0).cell 2;have c3:=(K0).cell 3;have c4:=(K0).cell 4;have c5:=(K0).cell 5;have c6:=(K0).cell 6;have c7:=(K0).cell 7;have c8:=(K0).cell 8;simp only [Go.Tw.gA,Go.Tw.gB,Go.Tw.gC] at c0 c1 c2 c3 c4 c5 c6 c7 c8;clear K0;go_enter Tryz.func200,Tryz.ntmps200;go_wp2;go_ret;exact ⟨rfl,hbox⟩
 | true =>
   obtain ⟨q,hq⟩:∃ z,(ar * td - u) / r = z:=⟨_,rfl⟩;have HF:=Lib.hid (fun W:World=>Y0a W kd f t a r u ar td true HPB.out);rw [hq] at HF;simp only [if_true];rw [hq];clear hq;go_enter Tryz.func200,Tryz.ntmps200;go_wp2_with fail;obtain ⟨W,hWW,k0,HXW,eW⟩:=Q2y w 305 #[.string kd,.int .i64 f,.int .i64 t,.int .i64 a,.int .i64 r,.int .i64 u,.int .i64 ar,.int .i64 td,.bool true];rw [hWW];clear hWW;obtain ⟨g,hg⟩:∃ x,w.heap.size = x:=⟨_,rfl⟩;rw [hg] at k0 eW ⊢;have K0:=Lib.hid k0;clear k0 hg;have hdr:=(Ext.refl W).drew;refine Flow.Q1q [.p,.w,.p,.w,.w,.w,.p] [0,1,2,3,4,5,6] [[],[0],[1],[],[3],[2,4],[0,1,2,3,4,5]]
    [.c 0 (.pointer (some ⟨g,5,none⟩)),.c 1 (.int .i64 u),.c 2 (.int .i64 (-u)),.c 3 (plV kd f t a r u ar td true),.c 4 (.int .i64 q),.c 5 (.int .i64 (if -u < q then q else -u)),.c 6 (.int .i64 (if -u < q then q else -u))]
    (by kernel_rfl) rfl (by kernel_rfl) ⟨?g0,?g1,?g2,?g3,?g4,?g5,?g6,trivial⟩ ?post
   case g0=>
    intro v w1 hx;intro bb hbb;subst hbb;refine ⟨_,fun w=>?_,rfl⟩;go_simp
   case g1=>
    intro v w1 hx;(repeat intro (zq:v _ = _));intro bb hbb;subst hbb;have n0:w1.cell? ⟨g,5,none⟩ = some (.int .i64 u):=(K0.out.ext (hdr.trans hx)).cell 5;intro K hK;go_simp;exact hK _ _ (Ext.refl _) rfl
   case g2 | g6=>
    intro v w1 hx;(repeat intro (zq:v _ = _));intro bb hbb;subst hbb;refine ⟨_,fun w=>?_,rfl⟩;go_simp
   case g3=>
    intro v w1 hx;intro bb hbb;intro K2 hK2;have o1:bb.eval (.tmp 1) = .pointer (some ⟨g,0,none⟩):=by rw [hbb]; dsimp only; (try simp (discharger:=decide) only [eval_put_ne]); rfl
    exact Q0x (.tmp 1) _ rfl Tryz.Y7t Tryz.Y0s o1 (K0.out.ext (hdr.trans hx)) rfl (hK2 _ _ (Ext.refl _) rfl)
   case g4=>
    intro v w1 hx;(repeat intro (zq:v _ = _));intro bb hbb;subst hbb;intro K2 hK2;go_simp;refine Q0f (HF.out w1) ?_;rintro e w2 ⟨rfl,hx2⟩;exact ⟨_,rfl,hK2 _ _ hx2 rfl⟩
   case g5=>
    intro v w1 hx;(repeat intro (zq:v _ = _));intro bb hbb;subst hbb;intro K hK;go_simp;exact hK _ _ (Ext.refl _) rfl
   case post =>
    intro v w1 hx;(iterate 7 intro (zq:v _ = _));simp only [Flow.All,Flow.acts,Act.put];go_simp;have hxx:=HXW.out.trans (hdr.trans hx);have HX9:=Lib.hid hxx;clear hx hdr hxx;(repeat clear zq);go_wp2
    all_goals go_ret
    all_goals exact ⟨Q1c (by omega),HX9.out⟩
theorem Z4r (w:World) (kd:ByteArray) (f t a r v ar td:Int) (o:Bool) (x:Int) (hb:PlB a r v ar td) (hx:-4096 <= x /\ x <= 4096) :
    Calls Tryz.prog 204 #[plV kd f t a r v ar td o,.int .i64 x] w fun e w'=>e = .returned (.int .i64 (max 0 ((v - ar * x) / r))) /\ Ext w w':=by
 have hbox:=Ext.box w (.cells (plC kd f t a r v ar td o) 305);have K0:=Blk.made w 305 (plC kd f t a r v ar td o);have hm:=Z2b hb.ar hx;have h1:=hb.v;have h2:=hb.r;have w1:IntKind.i64.wrap (ar * x) = ar * x:=Q2r (by omega) (by omega)
 have w2:IntKind.i64.wrap (v - ar * x) = v - ar * x:=Q2r (by omega) (by omega)
 have HF:=Lib.hid (fun W:World=>Z0r W (v - ar * x) r (by omega) (by omega))
 have c0:=(K0).cell 0;have c1:=(K0).cell 1;have c2:=(K0).cell 2;have c3:=(K0).cell 3;have c4:=(K0).cell 4;have c5:=(K0).cell 5;have c6:=(K0).cell 6;have c7:=(K0).cell 7;have c8:=(K0).cell 8;simp only [Go.Tw.gA,Go.Tw.gB,Go.Tw.gC] at c0 c1 c2 c3 c4 c5 c6 c7 c8;clear hb hm h1 h2 K0 hx;go_enter Tryz.func204,Tryz.ntmps204;go_wp2_with fail;refine (HF.out _).mono ?_;rintro e w2 ⟨rfl,hw⟩;subst hw;go_wp2
 all_goals go_ret
 all_goals exact ⟨Q1c (by omega),hbox⟩
theorem J2w (w:World) (kd:ByteArray) (f t a r v ar td:Int) (o:Bool) (hb:PlB a r v ar td) :
    Calls Tryz.prog 201 #[plV kd f t a r v ar td o] w fun e w'=>e = .returned (.int .i64 (max 0 ((ar * td - v) / r))) /\ Ext w w':=by
 have hbox:=Ext.box w (.cells (plC kd f t a r v ar td o) 305);have K0:=Blk.made w 305 (plC kd f t a r v ar td o);have HF:=Lib.hid (fun W:World=>Y0a W kd f t a r v ar td o hb);have c0:=(K0).cell 0;have c1:=(K0).cell 1;have c2:=(K0).cell 2;have c3:=(K0).cell 3;have c4:=(K0).cell 4;have c5:=(K0).cell 5;have c6:=(K0).cell 6;have c7:=(K0).cell 7;have c8:=(K0).cell 8;simp only [Go.Tw.gA,Go.Tw.gB,Go.Tw.gC] at c0 c1 c2 c3 c4 c5 c6 c7 c8;clear hb;go_enter Tryz.func201,Tryz.ntmps201;go_wp2_with (refine Q0j rfl _ _ rfl Tryz.Y7t Tryz.Y0s rfl K0 rfl ?_);refine (HF.out _).mono ?_;rintro e w2 ⟨rfl,hw⟩;have HX:=Lib.hid (hbox.trans hw);clear hw hbox;go_wp2
 all_goals go_ret
 all_goals exact ⟨Q1c (by omega),HX.out⟩
theorem Z1o (w:World) (kd:ByteArray) (f t a r v ar td:Int) (o:Bool) (hb:PlB a r v ar td) :
    Calls Tryz.prog 203 #[plV kd f t a r v ar td o] w fun e w'=>e = .returned (.int .i64 (max 0 ((v - ar * max td a) / r))) /\ Ext w w':=by
 have hbox:=Ext.box w (.cells (plC kd f t a r v ar td o) 305);have K0:=Blk.made w 305 (plC kd f t a r v ar td o);have h1:=hb.a;have h2:=hb.td;obtain ⟨x,hx⟩:∃ z,max td a = z:=⟨_,rfl⟩;have HF:=Lib.hid (fun W:World=>Z4r W kd f t a r v ar td o x hb (by omega))
 rw [hx];have c0:=(K0).cell 0;have c1:=(K0).cell 1;have c2:=(K0).cell 2;have c3:=(K0).cell 3;have c4:=(K0).cell 4;have c5:=(K0).cell 5;have c6:=(K0).cell 6;have c7:=(K0).cell 7;have c8:=(K0).cell 8;simp only [Go.Tw.gA,Go.Tw.gB,Go.Tw.gC] at c0 c1 c2 c3 c4 c5 c6 c7 c8;clear hb h1 h2
 by_cases hlt:td < a
 . obtain rfl:a = x:=by omega
   clear hx;go_enter Tryz.func203,Tryz.ntmps203;go_wp2_with (refine Q0j rfl _ _ rfl Tryz.Y7t Tryz.Y0s rfl K0 rfl ?_);refine (HF.out _).mono ?_;rintro e w2 ⟨rfl,hw⟩;have HX:=Lib.hid (hbox.trans hw);clear hw hbox;go_wp2;go_ret;exact ⟨rfl,HX.out⟩
 . obtain rfl:td = x:=by omega
   clear hx;go_enter Tryz.func203,Tryz.ntmps203;go_wp2_with (refine Q0j rfl _ _ rfl Tryz.Y7t Tryz.Y0s rfl K0 rfl ?_);refine (HF.out _).mono ?_;rintro e w2 ⟨rfl,hw⟩;have HX:=Lib.hid (hbox.trans hw);clear hw hbox;go_wp2;go_ret;exact ⟨rfl,HX.out⟩
theorem J4g (w:World) (kd:ByteArray) (f t a r v ar td:Int) (o:Bool) (hb:PlB a r v ar td) :
    Calls Tryz.prog 205 #[plV kd f t a r v ar td o] w fun e w'=>e = .returned (.int .i64 (max 0 (min r (v - ar * a)))) /\ Ext w w':=by
 have hbox:=Ext.box w (.cells (plC kd f t a r v ar td o) 305);have K0:=Blk.made w 305 (plC kd f t a r v ar td o);have h1:=hb.v;have h2:=hb.a;have hm:=Z2b hb.ar (y:=a) (c:=1024) (by omega)
 have w1:IntKind.i64.wrap (ar * a) = ar * a:=Q2r (by omega) (by omega)
 have w2:IntKind.i64.wrap (v - ar * a) = v - ar * a:=Q2r (by omega) (by omega)
 have c0:=(K0).cell 0;have c1:=(K0).cell 1;have c2:=(K0).cell 2;have c3:=(K0).cell 3;have c4:=(K0).cell 4;have c5:=(K0).cell 5;have c6:=(K0).cell 6;have c7:=(K0).cell 7;have c8:=(K0).cell 8;simp only [Go.Tw.gA,Go.Tw.gB,Go.Tw.gC] at c0 c1 c2 c3 c4 c5 c6 c7 c8;clear hb h1 h2 hm K0;go_enter Tryz.func205,Tryz.ntmps205;go_wp2
 all_goals go_ret
 all_goals exact ⟨Q1c (by omega),hbox⟩
theorem J2n (w:World) (kd:ByteArray) (f t a r v ar td:Int) (o:Bool) (hb:PlB a r v ar td) :
    Calls Tryz.prog 206 #[plV kd f t a r v ar td o] w fun e w'=>e = .returned (.int .i64 (max 0 ((v - ar * a) / r))) /\ Ext w w':=by
 have hbox:=Ext.box w (.cells (plC kd f t a r v ar td o) 305);have K0:=Blk.made w 305 (plC kd f t a r v ar td o);have h1:=hb.a;have HF:=Lib.hid (fun W:World=>Z4r W kd f t a r v ar td o a hb (by omega))
 have c0:=(K0).cell 0;have c1:=(K0).cell 1;have c2:=(K0).cell 2;have c3:=(K0).cell 3;have c4:=(K0).cell 4;have c5:=(K0).cell 5;have c6:=(K0).cell 6;have c7:=(K0).cell 7;have c8:=(K0).cell 8;simp only [Go.Tw.gA,Go.Tw.gB,Go.Tw.gC] at c0 c1 c2 c3 c4 c5 c6 c7 c8;clear hb h1;go_enter Tryz.func206,Tryz.ntmps206;go_wp2_with (refine Q0j rfl _ _ rfl Tryz.Y7t Tryz.Y0s rfl K0 rfl ?_);refine (HF.out _).mono ?_;rintro e w2 ⟨rfl,hw⟩;have HX:=Lib.hid (hbox.trans hw);clear hw hbox;go_wp2
 all_goals go_ret
 all_goals exact ⟨rfl,HX.out⟩
abbrev lkC (kd:ByteArray) (f t a r:Int):Array Value:=#[.string kd,.int .i64 f,.int .i64 t,.int .i64 a,.int .i64 r]
abbrev lkV (kd:ByteArray) (f t a r:Int):Value:=.agg (lkC kd f t a r)
theorem J3j (w:World) (kd:ByteArray) (f t a r:Int) :
    Calls Tryz.prog 208 #[lkV kd f t a r] w fun e w'=>e = .returned (.int .i64 (if f = -1 then t else f)) /\ Ext w w':=by
 have hbox:=Ext.box w (.cells (lkC kd f t a r) 106);have K0:=Blk.made w 106 (lkC kd f t a r);have c0:=(K0).cell 0;have c1:=(K0).cell 1;have c2:=(K0).cell 2;have c3:=(K0).cell 3;have c4:=(K0).cell 4;simp only [Go.Tw.gA,Go.Tw.gB,Go.Tw.gC] at c0 c1 c2 c3 c4;clear K0
 by_cases hf:f = -1
 . have hfb:(f == -1) = true:=by simp [hf]
   rw [if_pos hf];clear hf;go_enter Tryz.func208,Tryz.ntmps208;go_wp2;go_ret;exact ⟨rfl,hbox⟩
 . have hfb:(f == -1) = false:=by simp [hf]
   rw [if_neg hf];clear hf;go_enter Tryz.func208,Tryz.ntmps208;go_wp2;go_ret;exact ⟨rfl,hbox⟩
end Go.Proofs
namespace Go.Ba
structure Cd where
 tide:Int
 opn:Bool
 inflow:Vol
structure Cd.le (c d:Cd):Prop where
 tide:c.tide <= d.tide
 opn:c.opn = d.opn
 inflow:leV c.inflow d.inflow
def okB (v:Vol) (i:Int):Bool:=decide (i < 0) || decide (v i.toNat <= 100000000)
def inV (v:Vol) (n:Nat) (x:Vol):Vol:=fun k=>if k < n then v k + x k else v k
def inB (v:Vol) (n:Nat) (x:Vol):Bool:=(List.range n).all fun k=>decide (v k + x k <= 100000000)
def J5h (area:Vol) (t:Int) (o:Bool):List Lk -> Vol -> Vol
 | [],v=>v
 | l :: ls,v=>J5h area t o ls (l.step area t o v)
def J4z (area:Vol) (t:Int) (o:Bool):List Lk -> Vol -> Bool
 | [],_=>true
 | l :: ls,v=>okB (l.mid area t o v) l.src && okB (l.step area t o v) l.dst && J4z area t o ls (l.step area t o v)
structure Bs where
 n:Nat
 area:Vol
 limit:Vol
 links:List Lk
structure Bs.Ok (b:Bs):Prop where
 area:∀ k,1 <= b.area k
 links:∀ l ∈ b.links,l.Fits b.n
def Bs.step (b:Bs) (c:Cd) (v:Vol):Vol:=J5h b.area c.tide c.opn b.links (inV v b.n c.inflow)
def Bs.fine (b:Bs) (c:Cd) (v:Vol):Bool:=inB v b.n c.inflow && J4z b.area c.tide c.opn b.links (inV v b.n c.inflow)
def Bs.run (b:Bs):List Cd -> Vol -> Option (List Vol)
 | [],_=>some []
 | c :: cs,v=>if b.fine c v then (b.run cs (b.step c v)).map (b.step c v :: ·) else none
inductive LeC:List Cd -> List Cd -> Prop
 | nil:LeC [] []
 | cons {c d:Cd} {cs ds:List Cd}:c.le d -> LeC cs ds -> LeC (c :: cs) (d :: ds)
inductive LeR:List Vol -> List Vol -> Prop
 | nil:LeR [] []
 | cons {v w:Vol} {vs ws:List Vol}:leV v w -> LeR vs ws -> LeR (v :: vs) (w :: ws)
def Bs.wet (b:Bs) (v:Vol):Bool:=(List.range b.n).any fun k=>decide (b.limit k < v k / b.area k)
structure Rg where
 lo:Int
 hi:Int
 ilo:Vol
 ihi:Vol
def J7v:List Rg -> Nat -> List Cd
 | [],_=>[]
 | r :: rs,k=>⟨r.hi,decide (0 < k),r.ihi⟩ :: J7v rs (k - 1)
def Bs.safe (b:Bs) (v:Vol) (rs:List Rg) (k:Nat):Option Bool:=(b.run (J7v rs k) v).map fun R=>!R.any b.wet
def Bs.latest (b:Bs) (v:Vol) (rs:List Rg):Nat -> Option (Option Nat)
 | 0=>(b.safe v rs 0).map fun q=>if q then some 0 else none
 | k + 1=>(b.safe v rs (k + 1)).bind fun q=>if q then some (some (k + 1)) else b.latest v rs k
end Go.Ba
namespace Go.Tw
open Go.RowKit
structure X9p where
 name:ByteArray
 area:Int
 limit:Int
structure Q6r where
 kind:ByteArray
 src:Int
 dst:Int
 lev:Int
 rate:Int
instance:Inhabited X9p:=⟨⟨⟨#[]⟩,0,0⟩⟩
instance:Inhabited Q6r:=⟨⟨⟨#[]⟩,0,0,0,0⟩⟩
structure Q1j where
 nodes:List X9p
 links:List Q6r
structure Cond where
 tide:Int
 opn:Bool
 inflow:List Int
instance:Inhabited Cond:=⟨⟨0,false,[]⟩⟩
def Z8k (_:World) (c:Nat -> Value) (x:X9p):Prop:=c 0 = .string x.name /\ c 1 = .int .i64 x.area /\ c 2 = .int .i64 x.limit /\ Short x.name
def J2b (_:World) (c:Nat -> Value) (x:Q6r):Prop:=c 0 = .string x.kind /\ c 1 = .int .i64 x.src /\ c 2 = .int .i64 x.dst /\ c 3 = .int .i64 x.lev /\ c 4 = .int .i64 x.rate /\ Short x.kind
def J0y (w:World) (c:Nat -> Value) (x:Cond):Prop:=c 0 = .int .i64 x.tide /\ c 1 = .bool x.opn /\ Q0e w (c 2) x.inflow
theorem Z8k.ext (w w':World) (c:Nat -> Value) (x:X9p) (_:Ext w w') (h:Z8k w c x):Z8k w' c x:=h
theorem J2b.ext (w w':World) (c:Nat -> Value) (x:Q6r) (_:Ext w w') (h:J2b w c x):J2b w' c x:=h
theorem J0y.ext (w w':World) (c:Nat -> Value) (x:Cond) (hx:Ext w w') (h:J0y w c x):J0y w' c x:=⟨h.1,h.2.1,h.2.2.ext hx⟩
def X4v:World -> Value -> List X9p -> Prop:=Rows 3 Z8k
def X1p:World -> Value -> List Q6r -> Prop:=Rows 5 J2b
def Q2p:World -> Value -> List Cond -> Prop:=Rows 3 J0y
theorem X4v.ext {w w':World} {v:Value} {l:List X9p} (h:X4v w v l) (hx:Ext w w'):X4v w' v l:=Rows.ext Z8k.ext h hx
theorem X1p.ext {w w':World} {v:Value} {l:List Q6r} (h:X1p w v l) (hx:Ext w w'):X1p w' v l:=Rows.ext J2b.ext h hx
theorem Q2p.ext {w w':World} {v:Value} {l:List Cond} (h:Q2p w v l) (hx:Ext w w'):Q2p w' v l:=Rows.ext J0y.ext h hx
def Q6m (l:List X9p) (k:Nat):Int:=(l.getD k default).area
def X2e (l:List X9p) (k:Nat):Int:=(l.getD k default).limit
def X7d (l:List X9p) (k:Nat):ByteArray:=(l.getD k default).name
def lk (l:List Q6r) (k:Nat):Q6r:=l.getD k default
def cd (l:List Cond) (k:Nat):Cond:=l.getD k default
theorem X4v.opened {w:World} {v:Value} {l:List X9p} (h:X4v w v l) :
    ∃ A cap,v = .slice A l.length cap /\ l.length <= 17592186043904 /\ l.length <= cap /\ ∀ k,k < l.length -> ∃ b off,A = some ⟨b,off,none⟩ /\ b < w.heap.size /\
     w.cell? ⟨b,off + k * 3,none⟩ = some (.string (X7d l k)) /\ w.cell? ⟨b,off + k * 3 + 1,none⟩ = some (.int .i64 (Q6m l k)) /\ w.cell? ⟨b,off + k * 3 + 2,none⟩ = some (.int .i64 (X2e l k)) /\ Short (X7d l k):=by
 obtain ⟨c,⟨A,cap,hv,hn,hcap,hc⟩,h2⟩:=h;refine ⟨A,cap,hv,hn,hcap,fun k hk=>?_⟩;obtain ⟨b,off,hA,h0⟩:=hc (k * 3) (by omega)
 obtain ⟨b',off',hA',h1⟩:=hc (k * 3 + 1) (by omega)
 rw [hA] at hA'; cases hA';obtain ⟨b',off',hA',h3⟩:=hc (k * 3 + 2) (by omega)
 rw [hA] at hA'; cases hA';obtain ⟨e0,e1,e2,e3⟩:=h2 k hk;simp only [Nat.add_zero] at e0 e1 e2;have hd:l.getD k default = l[k]:=by simp [hk]
 refine ⟨b,off,hA,World.block_lt_of_cell? w _ h0,?_,?_,?_,?_⟩
 . rw [h0,e0,X7d,hd]
 . rw [Nat.add_assoc,h1,e1,Q6m,hd]
 . rw [Nat.add_assoc,h3,e2,X2e,hd]
 . rw [X7d,hd]; exact e3
theorem X1p.opened {w:World} {v:Value} {l:List Q6r} (h:X1p w v l) :
    ∃ A cap,v = .slice A l.length cap /\ l.length <= 17592186043904 /\ l.length <= cap /\ ∀ k,k < l.length -> ∃ b off,A = some ⟨b,off,none⟩ /\ b < w.heap.size /\
     w.cell? ⟨b,off + k * 5,none⟩ = some (.string (lk l k).kind) /\ w.cell? ⟨b,off + k * 5 + 1,none⟩ = some (.int .i64 (lk l k).src) /\ w.cell? ⟨b,off + k * 5 + 2,none⟩ = some (.int .i64 (lk l k).dst) /\
     w.cell? ⟨b,off + k * 5 + 3,none⟩ = some (.int .i64 (lk l k).lev) /\ w.cell? ⟨b,off + k * 5 + 4,none⟩ = some (.int .i64 (lk l k).rate) /\ Short (lk l k).kind:=by
 obtain ⟨c,⟨A,cap,hv,hn,hcap,hc⟩,h2⟩:=h;refine ⟨A,cap,hv,hn,hcap,fun k hk=>?_⟩;obtain ⟨b,off,hA,h0⟩:=hc (k * 5) (by omega)
 obtain ⟨b',off',hA',h1⟩:=hc (k * 5 + 1) (by omega)
 rw [hA] at hA'; cases hA';obtain ⟨b',off',hA',h3⟩:=hc (k * 5 + 2) (by omega)
 rw [hA] at hA'; cases hA';obtain ⟨b',off',hA',h4⟩:=hc (k * 5 + 3) (by omega)
 rw [hA] at hA'; cases hA';obtain ⟨b',off',hA',h5⟩:=hc (k * 5 + 4) (by omega)
 rw [hA] at hA'; cases hA';obtain ⟨e0,e1,e2,e3,e4,e5⟩:=h2 k hk;simp only [Nat.add_zero] at e0 e1 e2 e3 e4;have hd:l.getD k default = l[k]:=by simp [hk]
 refine ⟨b,off,hA,World.block_lt_of_cell? w _ h0,?_,?_,?_,?_,?_,?_⟩
 . rw [h0,e0,lk,hd]
 . rw [Nat.add_assoc,h1,e1,lk,hd]
 . rw [Nat.add_assoc,h3,e2,lk,hd]
 . rw [Nat.add_assoc,h4,e3,lk,hd]
 . rw [Nat.add_assoc,h5,e4,lk,hd]
 . rw [lk,hd]; exact e5
theorem Q2p.opened {w:World} {v:Value} {l:List Cond} (h:Q2p w v l) :
    ∃ A cap,v = .slice A l.length cap /\ l.length <= 17592186043904 /\ l.length <= cap /\ ∀ k,k < l.length -> ∃ b off x,A = some ⟨b,off,none⟩ /\ b < w.heap.size /\
     w.cell? ⟨b,off + k * 3,none⟩ = some (.int .i64 (cd l k).tide) /\ w.cell? ⟨b,off + k * 3 + 1,none⟩ = some (.bool (cd l k).opn) /\ w.cell? ⟨b,off + k * 3 + 2,none⟩ = some x /\ Q0e w x (cd l k).inflow:=by
 obtain ⟨c,⟨A,cap,hv,hn,hcap,hc⟩,h2⟩:=h;refine ⟨A,cap,hv,hn,hcap,fun k hk=>?_⟩;obtain ⟨b,off,hA,h0⟩:=hc (k * 3) (by omega)
 obtain ⟨b',off',hA',h1⟩:=hc (k * 3 + 1) (by omega)
 rw [hA] at hA'; cases hA';obtain ⟨b',off',hA',h3⟩:=hc (k * 3 + 2) (by omega)
 rw [hA] at hA'; cases hA';obtain ⟨e0,e1,e2⟩:=h2 k hk;simp only [Nat.add_zero] at e0 e1 e2;have hd:l.getD k default = l[k]:=by simp [hk]
 refine ⟨b,off,c (k * 3 + 2),hA,World.block_lt_of_cell? w _ h0,?_,?_,?_,?_⟩
 . rw [h0,e0,cd,hd]
 . rw [Nat.add_assoc,h1,e1,cd,hd]
 . rw [Nat.add_assoc,h3]
 . rw [cd,hd]; exact e2
structure Q8y (w:World) (a b:Value) (x:Q1j):Prop where
 nodes:X4v w a x.nodes
 links:X1p w b x.links
theorem Q8y.ext {w w':World} {a b:Value} {x:Q1j} (h:Q8y w a b x) (hx:Ext w w'):Q8y w' a b x:=⟨h.nodes.ext hx,h.links.ext hx⟩
def Q2g (w:World) (v:Value) (x:Q1j):Prop:=∃ a b,v = .agg #[a,b] /\ Q8y w a b x
theorem Q2g.ext {w w':World} {v:Value} {x:Q1j} (h:Q2g w v x) (hx:Ext w w'):Q2g w' v x:=let ⟨a,b,e,h1⟩:=h; ⟨a,b,e,h1.ext hx⟩
def Y2x (w:World) (v:Value) (x:Cond):Prop:=∃ a,v = .agg #[.int .i64 x.tide,.bool x.opn,a] /\ Q0e w a x.inflow
theorem Y2x.ext {w w':World} {v:Value} {x:Cond} (h:Y2x w v x) (hx:Ext w w'):Y2x w' v x:=let ⟨a,e,h1⟩:=h; ⟨a,e,h1.ext hx⟩
end Go.Tw
namespace Go.Tw
open Go.Ba
def Q5x (V:List Int) (i n:Int):List Int:=if i < 0 then V else V.set i.toNat (ix V i.toNat + n)
def Q6t (V:List Int) (i:Int):Bool:=decide (i < 0) || decide (ix V i.toNat <= 100000000)
theorem X3h (V:List Int) (i n:Int):(Q5x V i n).length = V.length:=by unfold Q5x; split <;> simp
theorem Z8j {V:List Int} {k:Nat} (h:V.length <= k):ix V k = 0:=by unfold ix; simp [List.getD_eq_getElem?_getD,h]
theorem Z5d (V:List Int) {k:Nat} (hk:k < V.length) (x:Int) (j:Nat):ix (V.set k x) j = if k = j then x else ix V j:=by
 unfold ix;simp only [List.getD_eq_getElem?_getD,List.getElem?_set]
 split
 . rename_i h; subst h; simp
 . rfl
def Q2m:ByteArray:=⟨#[98,97,114,114,105,101,114]⟩
def Y7b:ByteArray:=⟨#[108,101,97,107]⟩
def Q6x:ByteArray:=⟨#[111,117,116,102,97,108,108]⟩
def Z1g:ByteArray:=⟨#[112,117,109,112]⟩
def Z6u:ByteArray:=⟨#[119,101,105,114]⟩
def Z6i (s:ByteArray):Option Kd:=if s = Q2m then some .barrier else if s = Y7b then some .leak else if s = Q6x then some .outfall else if s = Z1g then some .pump else if s = Z6u then some .weir else none
def Q6r.X4j (x:Q6r):Lk:=⟨(Z6i x.kind).getD .barrier,x.src,x.dst,x.lev,x.rate⟩
def Q8j (V X:List Int):Nat -> List Int × Bool
 | 0=>(V,true)
 | k + 1=>(Q5x (Q8j V X k).1 k (ix X k),(Q8j V X k).2 && Q6t (Q5x (Q8j V X k).1 k (ix X k)) k)
def Q2z (b:Q1j) (c:Cond) (k:Nat) (U:List Int):Int:=(lk b.links k).X4j.flow (ix U (lk b.links k).X4j.node.toNat) (Q6m b.nodes (lk b.links k).X4j.node.toNat) c.tide c.opn
def Q5b (b:Q1j) (c:Cond) (U:List Int) (q:Bool):Nat -> List Int × Bool × List Int
 | 0=>(U,q,[])
 | k + 1 =>
   let r:=Q5b b c U q k
   let f:=Q2z b c k r.1
   let m:=Q5x r.1 (lk b.links k).src (-f)
   let o:=Q5x m (lk b.links k).dst f
   (o,(r.2.1 && Q6t m (lk b.links k).src) && Q6t o (lk b.links k).dst,r.2.2 ++ [f])
def Q3w (b:Q1j) (V:List Int) (c:Cond):List Int × Bool × List Int:=Q5b b c (Q8j V c.inflow c.inflow.length).1 (Q8j V c.inflow c.inflow.length).2 b.links.length
theorem Q6w (V X:List Int):∀ k,(Q8j V X k).1.length = V.length
 | 0=>rfl
 | k + 1=>by unfold Q8j; rw [X3h,Q6w V X k]
theorem Q4n (b:Q1j) (c:Cond) (U:List Int) (q:Bool):∀ k,(Q5b b c U q k).1.length = U.length
 | 0=>rfl
 | k + 1=>by unfold Q5b; simp only [X3h]; exact Q4n b c U q k
theorem Q8b (b:Q1j) (c:Cond) (U:List Int) (q:Bool):∀ k,(Q5b b c U q k).2.2.length = k
 | 0=>rfl
 | k + 1=>by unfold Q5b; simp [Q8b b c U q k]
structure Q1j.Ok (b:Q1j):Prop where
 some:1 <= b.nodes.length /\ b.nodes.length <= 8
 many:b.links.length <= 16
 areas:∀ k,k < b.nodes.length -> 1 <= Q6m b.nodes k /\ Q6m b.nodes k <= 1000
 limits:∀ k,k < b.nodes.length -> 0 <= X2e b.nodes k /\ X2e b.nodes k <= 1024
 kinds:∀ k,k < b.links.length -> Z6i (lk b.links k).kind ≠ none
 links:∀ k,k < b.links.length -> (lk b.links k).X4j.Fits b.nodes.length
 levs:∀ k,k < b.links.length -> (lk b.links k).lev <= 1024 /\ (lk b.links k).rate <= 1000
def Bnd (V:List Int) (m:Int):Prop:=∀ k,0 <= ix V k /\ ix V k <= m
theorem Fits.J7e {l:Lk} {n:Nat} (h:l.Fits n):(l.src = -1 ∨ (0 <= l.src /\ l.src < n)) /\ (l.dst = -1 ∨ (0 <= l.dst /\ l.dst < n)) /\ 0 <= l.node /\ l.node < n:=by
 have he:=h.ends;unfold Lk.node;cases hk:l.kind <;> rw [hk] at he <;> dsimp only at he
 . refine ⟨.inl he.1,.inr he.2,?_⟩; rw [if_pos he.1]; exact he.2
 . refine ⟨.inl he.1,.inr he.2,?_⟩; rw [if_pos he.1]; exact he.2
 . refine ⟨.inr he.2,.inl he.1,?_⟩; rw [if_neg (by omega)]; exact he.2
 . refine ⟨.inr ⟨he.2.1,he.2.2.1⟩,.inr he.2.2.2,?_⟩; rw [if_neg (by omega)]; exact ⟨he.2.1,he.2.2.1⟩
 . refine ⟨.inr ⟨he.2.1,he.2.2.1⟩,.inr he.2.2.2,?_⟩; rw [if_neg (by omega)]; exact ⟨he.2.1,he.2.2.1⟩
end Go.Tw
namespace Go.Proofs
open Go.RowKit Go.Tw Go.Flow
attribute [local go_sem] Oper.semAt_some
abbrev Z2a (V:List Int):Array Value:=(V.map (Value.int .i64)).toArray
theorem X2q {w:World} {b:Nat} {V:List Int} (h:Blk w b 3 (Z2a V)) {k:Nat} (hk:k < V.length):w.cell? ⟨b,k,none⟩ = some (.int .i64 (ix V k)):=by
 rw [h.cell];simp [Z2a,hk,ix]
theorem Y4a (V:List Int) (k:Nat) (x:Int):(Z2a V).setIfInBounds k (.int .i64 x) = Z2a (V.set k x):=by simp [Z2a,List.map_set]
structure StB (w:World) (go gb b:Nat) (V:List Int) (q:Bool):Prop where
 o:Blk w go 44 #[.slice (some ⟨b,0,none⟩) V.length V.length]
 q:Blk w gb 4 #[.bool q]
 r:Blk w b 3 (Z2a V)
theorem StB.ext {w w':World} {go gb b:Nat} {V:List Int} {q:Bool} (h:StB w go gb b V q) (hx:Ext w w'):StB w' go gb b V q:=⟨h.o.ext hx,h.q.ext hx,h.r.ext hx⟩
def Two (gb b:Nat) (w w':World):Prop:=(∀ M,M <= gb -> M <= b -> Below M w w') /\ ∀ k,k ≠ gb -> k ≠ b -> w'.heap[k]? = w.heap[k]?
theorem Q9a {w w':World} {b:Nat} {T:TypeId} {cs:Array Value} (h:Blk w b T cs) (ho:w'.heap[b]? = w.heap[b]?):Blk w' b T cs:=by unfold Blk at *; rw [ho]; exact h
theorem Z0o {w:World} {a b:Nat} {S T:TypeId} {cs ds:Array Value} (h:Blk w a S cs) (h2:Blk w b T ds) (hT:S ≠ T):a ≠ b:=by
 rintro rfl;unfold Blk at *;rw [h] at h2;injection h2 with h2;injection h2 with _ h3 _;exact hT h3
theorem Two.refl (gb b:Nat) (w:World):Two gb b w w:=⟨fun _ _ _=>Below.refl _ _,fun _ _ _=>rfl⟩
theorem Two.trans {gb b:Nat} {u v w:World} (h:Two gb b u v) (k:Two gb b v w):Two gb b u w:=⟨fun M h1 h2=>(h.1 M h1 h2).trans (k.1 M h1 h2),fun j h1 h2=>(k.2 j h1 h2).trans (h.2 j h1 h2)⟩
theorem X9a {w:World} {go gb b k:Nat} {V:List Int} {q q':Bool} {x:Int} (h:StB w go gb b V q) :
    StB ((w.setCell ⟨b,k,none⟩ (.int .i64 x)).setCell ⟨gb,0,none⟩ (.bool q')) go gb b (V.set k x) q' /\ Two gb b w ((w.setCell ⟨b,k,none⟩ (.int .i64 x)).setCell ⟨gb,0,none⟩ (.bool q')):=by
 have n1:go ≠ b:=Z0o h.o h.r (by decide)
 have n2:go ≠ gb:=Z0o h.o h.q (by decide)
 have n3:gb ≠ b:=Z0o h.q h.r (by decide)
 have o1:∀ j,j ≠ b -> (w.setCell ⟨b,k,none⟩ (.int .i64 x)).heap[j]? = w.heap[j]?:=fun j hj=>Below.heap_setCell _ _ _ _ hj;have o2:∀ j,j ≠ gb -> ((w.setCell ⟨b,k,none⟩ (.int .i64 x)).setCell ⟨gb,0,none⟩ (.bool q')).heap[j]? = (w.setCell ⟨b,k,none⟩ (.int .i64 x)).heap[j]?:=fun j hj=>Below.heap_setCell _ _ _ _ hj;refine ⟨⟨?_,?_,?_⟩,fun M h1 h2=>?_,fun j h1 h2=>(o2 j h1).trans (o1 j h2)⟩
 . rw [List.length_set]; exact Q9a h.o ((o2 go n2).trans (o1 go n1))
 . exact (Q9a h.q (o1 gb n3)).set 0 (.bool q')
 . have:=h.r.set k (.int .i64 x)
   rw [Y4a] at this;exact Q9a this (o2 b n3.symm)
 . exact ((Below.refl M w).setCell (p:=⟨b,k,none⟩) h2 _).setCell (p:=⟨gb,0,none⟩) h1 _
theorem add_any (w:World) (i n:Int) (go gb b:Nat) (V:List Int) (q:Bool) (h:StB w go gb b V q) (hi:i = -1 ∨ (0 <= i /\ i < V.length)) (hbd:∀ k,k < V.length -> -4000000000000000000 <= ix V k + n /\ ix V k + n <= 4000000000000000000) :
    Calls Tryz.prog 207 #[.int .i64 i,.int .i64 n,.pointer (some ⟨go,0,none⟩),.pointer (some ⟨gb,0,none⟩)] w fun e w'=>e = .returned (.tuple #[]) /\ StB w' go gb b (Q5x V i n) (q && Q6t (Q5x V i n) i) /\ Two gb b w w':=by
 rcases hi with rfl | ⟨h0,h1⟩
 . have e1:Q5x V (-1) n = V:=if_pos (by decide)
   have e2:Q6t V (-1) = true:=rfl;have HR:Hid (StB w go gb b (Q5x V (-1) n) (q && Q6t (Q5x V (-1) n) (-1)) /\ Two gb b w w):=Lib.hid ⟨by rw [e1,e2,Bool.and_true]; exact h,Two.refl _ _ _⟩
   clear h hbd e1 e2;go_enter Tryz.func207,Tryz.ntmps207;go_wp2
   go_end0
   exact ⟨rfl,HR.out⟩
 . obtain ⟨k,rfl⟩:∃ z:Nat,i = (z:Int):=⟨i.toNat,by omega⟩
   have hk:k < V.length:=by omega
   have HS:=Lib.hid h;have n3:gb ≠ b:=Z0o h.q h.r (by decide)
   have c0:=h.o.cell 0;have c1:=h.q.cell 0;have ck:=X2q h.r hk;have fz:=h.r.frozen k;simp only [Go.Tw.gA,Go.Tw.gB] at c0 c1;have hw1:=hbd k hk;obtain ⟨x,hx⟩:∃ z,ix V k = z:=⟨_,rfl⟩;rw [hx] at ck hw1;have HX:=Lib.hid hx;have hw2:IntKind.i64.wrap (x + n) = x + n:=Q2r (by omega) (by omega)
   have hkI:(k:Int) < V.length:=by omega
   have hne:((k:Int) != -1) = true:=by simp
   obtain ⟨N,hN⟩:∃ z,V.length = z:=⟨_,rfl⟩;rw [hN] at c0 hk hkI;have HK:=Lib.hid hk;have hneg:¬ (k:Int) = -1:=by omega
   have HE:Hid (Q5x V (k:Int) n = V.set k (x + n) /\ Q6t (V.set k (x + n)) (k:Int) = decide (x + n <= 100000000)):=Lib.hid (by
    refine ⟨?_,?_⟩
    . unfold Q5x; rw [if_neg (by omega),Int.toNat_natCast,hx]
    . unfold Q6t
      rw [Int.toNat_natCast,show decide ((k:Int) < 0) = false from decide_eq_false (by omega),Bool.false_or]
      congr 1
      simp [ix,hN ▸ hk])
   clear h hbd hx hw1 h0 h1;rw [HE.out.1,HE.out.2];go_enter Tryz.func207,Tryz.ntmps207;go_upto_region 2 with fail;have hs1:=HS.out.r.set k (.int .i64 (x + n));obtain ⟨w1,hw1⟩:∃ y,w.setCell ⟨b,k,none⟩ (.int .i64 (x + n)) = y:=⟨_,rfl⟩;have o1:∀ j,j ≠ b -> w1.heap[j]? = w.heap[j]?:=fun j hj=>by rw [<- hw1]; exact Below.heap_setCell _ _ _ _ hj
   have k0:=Q9a HS.out.o (o1 go (Z0o HS.out.o HS.out.r (by decide)))
   have k1:=Q9a HS.out.q (o1 gb n3);rw [Y4a] at hs1;rw [hw1] at hs1 ⊢;have HW:=Lib.hid hw1;have fz2:=k1.frozen 0;have ck2:=X2q hs1 (k:=k) (by rw [List.length_set,hN]; exact HK.out)
   have e3:ix (V.set k (x + n)) k = x + n:=by simp [ix,hN,HK.out]
   rw [e3] at ck2;replace c0:=k0.cell 0;replace c1:=k1.cell 0;simp only [Go.Tw.gA,Go.Tw.gB] at c0 c1;rw [hN] at c0;clear hs1 o1 k0 k1 ck fz hw1 e3 hw2;cases q with
   | false =>
     go_wp2
     go_end0
     exact ⟨rfl,by rw [<- HW.out]; exact X9a HS.out⟩
   | true =>
     by_cases hle:x + n <= 100000000
     . have hd:decide (x + n <= 100000000) = true:=decide_eq_true hle
       have HD:=Lib.hid hd;go_wp2
       go_end0
       exact ⟨rfl,by rw [<- HW.out]; (try rw [HD.out]); exact X9a HS.out⟩
     . have hd:decide (x + n <= 100000000) = false:=decide_eq_false hle
       have HD:=Lib.hid hd;go_wp2
       go_end0
       exact ⟨rfl,by rw [<- HW.out]; (try rw [HD.out]); exact X9a HS.out⟩
end Go.Proofs
namespace Go.Tw
open Go.RowKit Go.Flow
def Q7s (s:ByteArray):List (ByteArray × Value) -> Option Value
 | []=>none
 | p :: l=>if (s == p.1) = true then some p.2 else Q7s s l
def Y6n (s:ByteArray) (v:Value):List (ByteArray × Value) -> List (ByteArray × Value)
 | []=>[(s,v)]
 | p :: l=>if (s == p.1) = true then (s,v) :: l else p :: Y6n s v l
def Q2c (w:World) (b:Nat) (l:List (ByteArray × Value)):Prop :=
 ∃ a clock,w.heap[b]? = some (.map a clock) /\ a.toList.map (fun e=>(e.key,e.val)) = l.map fun p=>(Value.string p.1,p.2)
theorem Q2c.made (w:World):Q2c (w.alloc (.map #[] 0)) w.heap.size []:=⟨#[],0,by show (w.heap.push _)[w.heap.size]? = _; simp,rfl⟩
theorem Q2c.ext {w w':World} {b:Nat} {l:List (ByteArray × Value)} (h:Q2c w b l) (hx:Ext w w'):Q2c w' b l:=by
 obtain ⟨a,c,hb,he⟩:=h;exact ⟨a,c,by rw [Below.block hx b (Array.getElem?_eq_some_iff.1 hb).1]; exact hb,he⟩
theorem Q2c.lt {w:World} {b:Nat} {l:List (ByteArray × Value)} (h:Q2c w b l):b < w.heap.size:=by
 obtain ⟨a,c,hb,_⟩:=h;exact (Array.getElem?_eq_some_iff.1 hb).1
theorem X9w (s:ByteArray):∀ (es:List MapEntry) (l:List (ByteArray × Value)) (i:Nat),es.map (fun e=>(e.key,e.val)) = l.map (fun p=>(Value.string p.1,p.2)) ->
    ∃ r,Instr.findNow .string (.string s) es i = some r /\ r.map (·.2) = Q7s s l
 | [],[],i,_=>⟨none,rfl,rfl⟩
 | [],_ :: _,_,h=>by simp at h
 | _ :: _,[],_,h=>by simp at h
 | e :: es,p :: l,i,h=>by
   simp only [List.map_cons,List.cons.injEq,Prod.mk.injEq] at h;obtain ⟨⟨h1,h2⟩,h3⟩:=h;unfold Instr.findNow Q7s;simp only [h1,Instr.sameNow,h2];cases hs:(s == p.1) with
   | true=>exact ⟨some (i,p.2),by simp,by simp⟩
   | false =>
     obtain ⟨r,hr,hf⟩:=X9w s es l (i + 1) h3;exact ⟨r,by simpa using hr,by simpa using hf⟩
theorem J3h (s:ByteArray):(s == s) = true:=str_eq rfl
theorem J5m {a b:ByteArray} (h:(a == b) = true):a = b:=by
 cases hb:decide (a = b) with
 | true=>exact of_decide_eq_true hb
 | false=>rw [X1a (of_decide_eq_false hb)] at h; cases h
theorem Y3s (s:ByteArray):∀ (es:List MapEntry) (l:List (ByteArray × Value)) (i:Nat),es.map (fun e=>(e.key,e.val)) = l.map (fun p=>(Value.string p.1,p.2)) ->
    (Instr.findNow .string (.string s) es i = some none /\ ∀ v,Y6n s v l = l ++ [(s,v)]) ∨
    (∃ j x,Instr.findNow .string (.string s) es i = some (some (i + j,x)) /\ j < es.length /\ (∃ e,es[j]? = some e /\ e.key = .string s) /\ ∀ v e,e.key = Value.string s -> e.val = v ->
     (es.set j e).map (fun e=>(e.key,e.val)) = (Y6n s v l).map (fun p=>(Value.string p.1,p.2)))
 | [],[],i,_=>.inl ⟨rfl,fun v=>rfl⟩
 | [],_ :: _,_,h=>by simp at h
 | _ :: _,[],_,h=>by simp at h
 | e :: es,p :: l,i,h=>by
   simp only [List.map_cons,List.cons.injEq,Prod.mk.injEq] at h;obtain ⟨⟨h1,h2⟩,h3⟩:=h;cases hs:(s == p.1) with
   | true =>
     have hsp:=J5m hs;refine .inr ⟨0,e.val,?_,by simp,⟨e,rfl,by rw [h1,hsp]⟩,fun v e' h4 h5=>?_⟩
     . unfold Instr.findNow
       simp only [h1,Instr.sameNow,hs]; rfl
     . unfold Y6n
       rw [if_pos hs];simp [h4,h5,h3]
   | false =>
     have hn:¬ (s == p.1) = true:=by rw [hs]; simp
     rcases Y3s s es l (i + 1) h3 with ⟨ha,hb⟩ | ⟨j,x,ha,hj,⟨e0,he0,hk0⟩,hb⟩
     . refine .inl ⟨?_,fun v=>?_⟩
       . unfold Instr.findNow
         simp only [h1,Instr.sameNow,hs]; exact ha
       . unfold Y6n
         rw [if_neg hn,hb v]; rfl
     . refine .inr ⟨j + 1,x,?_,by simp; omega,⟨e0,by simpa using he0,hk0⟩,fun v e' h4 h5=>?_⟩
       . unfold Instr.findNow
         simp only [h1,Instr.sameNow,hs];rw [show i + (j + 1) = i + 1 + j from by omega]; exact ha
       . unfold Y6n
         rw [if_neg hn];simp only [List.set_cons_succ,List.map_cons,h1,h2];rw [hb v e' h4 h5]
theorem X4t {P:Program} {w:World} {r:Nat} {es:Array MapEntry} {clock:Nat} (hb:w.heap[r]? = some (.map es clock)):(getObj r).run P w = .ok (.map es clock) w:=by
 simp [getObj,Sem.run,hb]
theorem Y3u {P:Program} {w:World} {r:Nat} {es:Array MapEntry} {clock:Nat} (o:Obj) (hb:w.heap[r]? = some (.map es clock)):(setObj r o).run P w = .ok () { w with heap:=w.heap.setIfInBounds r o }:=by
 simp [setObj,Sem.run,hb]
theorem X4o {P:Program} {w:World} {k:TypeId} (hk:P.underlying k = some .string) (e:Bool) (s:ByteArray) (n:Nat):(Instr.checkKey e (n + 1) k (.string s)).run P w = .ok () w:=by
 unfold Instr.checkKey;simp only [Sem.run_bind,run_underlying hk,Result.andThen_ok,Sem.run_pure]
theorem Q5n {P:Program} {w:World} {b:Nat} {l:List (ByteArray × Value)} (h:Q2c w b l) {t k e:TypeId} (ht:P.underlying t = some (.map k e)) (hk:P.underlying k = some .string) {z:Value} (hz:(zeroValue e).run P w = .ok z w) (s:ByteArray) (ok:Bool) :
    (Instr.lookup t (.map (some b)) (.string s) ok).run P w = .ok (if ok then .tuple #[(Q7s s l).getD z,.bool (Q7s s l).isSome] else (Q7s s l).getD z) w:=by
 obtain ⟨a,clock,hb,he⟩:=h;obtain ⟨r,hr,hf⟩:=X9w s a.toList l 0 he;unfold Instr.lookup;simp only [Sem.run_bind,run_underlying ht,Result.andThen_ok,X4t hb,Sem.run_pure,X4o hk _ s 9999,Instr.findKey,run_underlying hk,hr];rw [<- hf];cases r with
 | none=>simp only [Sem.run_bind,hz,Result.andThen_ok,Sem.run_pure]; cases ok <;> rfl
 | some p=>cases ok <;> rfl
theorem Q4g {P:Program} {w:World} {b:Nat} {l:List (ByteArray × Value)} (h:Q2c w b l) {t k e:TypeId} (ht:P.underlying t = some (.map k e)) (hk:P.underlying k = some .string) (s:ByteArray) (v:Value) :
    ∃ w',(Instr.mapUpdate t (.map (some b)) (.string s) v).run P w = .ok () w' /\ Q2c w' b (Y6n s v l) /\ (∀ n,n <= b -> Below n w w') /\ w.grownBy w' (some b):=by
 obtain ⟨a,clock,hb,he⟩:=h;have hlt:=(Array.getElem?_eq_some_iff.1 hb).1;have hbel:∀ o n,n <= b -> Below n w { w with heap:=w.heap.setIfInBounds b o }:=fun o n hn =>
  ⟨rfl,rfl,rfl,by simp,fun k hk'=>by show (w.heap.setIfInBounds b o)[k]? = _; rw [Array.getElem?_setIfInBounds_ne (by omega)]⟩
 have hgr:∀ o,w.grownBy { w with heap:=w.heap.setIfInBounds b o } (some b):=fun o =>
  ⟨rfl,rfl,rfl,by simp,fun k _ hk'=>by show (w.heap.setIfInBounds b o)[k]? = _; rw [Array.getElem?_setIfInBounds_ne (fun e=>hk' (by rw [e]))]⟩
 rcases Y3s s a.toList l 0 he with ⟨hr,hp⟩ | ⟨j,x,hr,hj,⟨e0,he0,hk0⟩,hp⟩
 . refine ⟨{ w with heap:=w.heap.setIfInBounds b (.map (a.push ⟨.string s,v,clock⟩) (clock + 1)) },?_,⟨a.push ⟨.string s,v,clock⟩,clock + 1,?_,?_⟩,hbel _,hgr _⟩
   . unfold Instr.mapUpdate
     simp only [Sem.run_bind,run_underlying ht,Result.andThen_ok,X4t hb,Sem.run_pure,X4o hk _ s 9999,Instr.findKey,run_underlying hk,hr];exact Y3u _ hb
   . show (w.heap.setIfInBounds b _)[b]? = _; simp [hlt]
   . rw [hp v]; simp [he]
 . rw [Nat.zero_add] at hr
   have he0':a[j]? = some e0:=by simpa using he0
   refine ⟨{ w with heap:=w.heap.setIfInBounds b (.map (a.modify j fun e=>{ e with key:=.string s,val:=v }) clock) },?_,⟨a.modify j fun e=>{ e with key:=.string s,val:=v },clock,?_,?_⟩,hbel _,hgr _⟩
   . unfold Instr.mapUpdate
     simp only [Sem.run_bind,run_underlying ht,Result.andThen_ok,X4t hb,Sem.run_pure,X4o hk _ s 9999,Instr.findKey,run_underlying hk,hr,he0',Option.map_some,Option.getD_some,hk0];have hkt:(Instr.keyThatStays (.string s) (.string s)).run P w = .ok (.string s) w:=by
      unfold Instr.keyThatStays;rw [if_pos (by unfold Instr.sameBits; exact J3h s)]; rfl
     simp only [hkt,Result.andThen_ok];exact Y3u _ hb
   . show (w.heap.setIfInBounds b _)[b]? = _; simp [hlt]
   . have:=hp v { e0 with key:=.string s,val:=v } rfl rfl
     rw [<- this]
     congr 1
     apply List.ext_getElem?
     intro i;rw [Array.getElem?_toList,Array.getElem?_modify,List.getElem?_set]
     by_cases hij:j = i
     . subst hij
       have hja:j < a.size:=by simpa using hj
       simp only [he0',Option.map_some,if_true,Array.length_toList,hja]
     . simp [hij]
end Go.Tw
namespace Go.Proofs
open Go.RowKit Go.Tw Go.Flow
attribute [local go_sem] Oper.semAt_some
def kdV (a b:Bool) (f:Nat):Value:=.agg #[.bool a,.bool b,.func (.func f) #[] #[]]
def X6p:List (ByteArray × Value):=[(Q2m,kdV true false 200),(Y7b,kdV true false 201),(Q6x,kdV false true 203),(Z1g,kdV false false 205),(Z6u,kdV false false 206)]
theorem X8a:Tryz.prog.underlying 275 = some (.map 9 273):=by kernel_rfl
theorem Y6e:Tryz.prog.underlying 9 = some .string:=by kernel_rfl
theorem J4r (w:World):(zeroValue 273).run Tryz.prog w = .ok (.agg #[.bool false,.bool false,.nilFunc]) w:=by kernel_rfl
theorem Tryz.Z2u (w:World):(isAgg 270).run Tryz.prog w = .ok true w:=by kernel_rfl
theorem Tryz.X9v (w:World):(sizeOf 270).run Tryz.prog w = .ok 2 w:=by kernel_rfl
theorem table_any (w:World) :
    Calls Tryz.prog 174 #[] w fun e w'=>∃ b,e = .returned (.map (some b)) /\ Q2c w' b X6p /\ Ext w w':=by
 have hmm:=@run_makeMap Tryz.prog;go_enter Tryz.func174,Tryz.ntmps174;go_upto_region 2 with fail;obtain ⟨W,hWW,k0,k1,k2,HXW,eW⟩:=Y3i w 270 #[.bool true,.bool false] 270 #[.bool false,.bool true] 270 #[.bool false,.bool false];rw [hWW];clear hWW;obtain ⟨g,hg⟩:∃ x,w.heap.size = x:=⟨_,rfl⟩;rw [hg] at k0 k1 k2 eW ⊢;obtain ⟨W1,e1,m1,b1,_⟩:=Q4g (P:=Tryz.prog) (Q2c.made W) X8a Y6e Q2m (kdV true false 200);obtain ⟨W2,e2,m2,b2,_⟩:=Q4g (P:=Tryz.prog) m1 X8a Y6e Y7b (kdV true false 201);obtain ⟨W3,e3,m3,b3,_⟩:=Q4g (P:=Tryz.prog) m2 X8a Y6e Q6x (kdV false true 203);obtain ⟨W4,e4,m4,b4,_⟩:=Q4g (P:=Tryz.prog) m3 X8a Y6e Z1g (kdV false false 205);obtain ⟨W5,e5,m5,b5,_⟩:=Q4g (P:=Tryz.prog) m4 X8a Y6e Z6u (kdV false false 206);have x0:Ext W (W.alloc (.map #[] 0)):=Ext.box W (.map #[] 0);have x1:Ext W W1:=Below.trans x0 (b1 W.heap.size (Nat.le_refl _));have x2:Ext W W2:=Below.trans x1 (b2 W.heap.size (Nat.le_refl _));have x3:Ext W W3:=Below.trans x2 (b3 W.heap.size (Nat.le_refl _));have x4:Ext W W4:=Below.trans x3 (b4 W.heap.size (Nat.le_refl _));have x5:Ext W W5:=Below.trans x4 (b5 W.heap.size (Nat.le_refl _));have HM:Hid (Q2c W5 W.heap.size X6p):=m5;have HX:Hid (Ext w W5):=Lib.hid (HXW.out.trans x5);have k00:=k0.ext x0;have k01:=k0.ext x1;have k12:=k1.ext x2;have k23:=k2.ext x3;have k24:=k2.ext x4;clear m1 m2 m3 m4 m5 b1 b2 b3 b4 b5 x0 x1 x2 x3 x4 x5 k0 k1 k2 hg;rw [eW] at e1 e2 e3 e4 e5 HM;unfold kdV Q2m at e1;unfold kdV Y7b at e2;unfold kdV Q6x at e3;unfold kdV Z1g at e4;unfold kdV Z6u at e5;go_wp2_with (first | (refine Q0j rfl _ _ rfl Tryz.Z2u Tryz.X9v rfl k00 rfl ?_) | (refine Q0j rfl _ _ rfl Tryz.Z2u Tryz.X9v rfl k01 rfl ?_) | (refine Q0j rfl _ _ rfl Tryz.Z2u Tryz.X9v rfl k12 rfl ?_) | (refine Q0j rfl _ _ rfl Tryz.Z2u Tryz.X9v rfl k23 rfl ?_) | (refine Q0j rfl _ _ rfl Tryz.Z2u Tryz.X9v rfl k24 rfl ?_))
 go_ret;exact ⟨_,rfl,HM.out,HX.out⟩
end Go.Proofs
namespace Go.Tw
open Go.Ba
theorem X8h {x r:Int} (hr:1 <= r) {m:Int} (hm:0 <= m) (h:x <= m):x / r <= m:=by
 have h1:x / r <= m / r:=Int.ediv_le_ediv (by omega) h
 have h2:m / r <= m:=Int.ediv_le_self _ hm;omega
theorem J7d {x y b c:Int} (hx:0 <= x /\ x <= b) (hy:y <= c) (hc:0 <= c):x * y <= b * c:=by
 have h1:x * y <= x * c:=Int.mul_le_mul_of_nonneg_left hy hx.1;have h2:x * c <= b * c:=Int.mul_le_mul_of_nonneg_right hx.2 hc;omega
theorem Z7w {l:Lk} {n:Nat} (hf:l.Fits n) {v a t m:Int} (o:Bool) (hv:0 <= v /\ v <= m) (ha:0 <= a /\ a <= 1000) (ht:t <= 1024) :
    l.flow v a t o <= m + 1024000 /\ -m <= l.flow v a t o /\ (l.src ≠ -1 -> 0 <= l.flow v a t o /\ l.flow v a t o <= v) /\ (l.src = -1 -> 0 <= v + l.flow v a t o /\ v + l.flow v a t o <= m + 1024000):=by
 obtain ⟨hr,h0,he⟩:=hf;have hm:0 <= m:=by omega
 have hat:a * t <= 1000 * 1024:=J7d ha ht (by decide)
 have hal:0 <= a * l.lev:=Int.mul_nonneg ha.1 h0;have hmx:0 <= a * max t l.lev:=Int.mul_nonneg ha.1 (by omega)
 unfold Lk.flow;cases hk:l.kind <;> rw [hk] at he <;> dsimp only at he ⊢
 . cases o
   . simp only [Bool.false_eq_true,if_false]
     refine ⟨by omega,by omega,fun h=>absurd he.1 h,fun _=>by omega⟩
   . simp only [if_true]
     by_cases hx:0 <= a * t - v
     . have h1:=X8h (x:=a * t - v) hr hx (Int.le_refl _)
       have h2:0 <= (a * t - v) / l.rate:=Int.ediv_nonneg hx (by omega)
       refine ⟨by omega,by omega,fun h=>absurd he.1 h,fun _=>by omega⟩
     . have h1:=X8h (x:=a * t - v) hr (Int.le_refl 0) (by omega)
       refine ⟨by omega,by omega,fun h=>absurd he.1 h,fun _=>by omega⟩
 . by_cases hx:0 <= a * t - v
   . have h1:=X8h (x:=a * t - v) hr hx (Int.le_refl _)
     have h2:0 <= (a * t - v) / l.rate:=Int.ediv_nonneg hx (by omega)
     refine ⟨by omega,by omega,fun h=>absurd he.1 h,fun _=>by omega⟩
   . have h1:=X8h (x:=a * t - v) hr (Int.le_refl 0) (by omega)
     refine ⟨by omega,by omega,fun h=>absurd he.1 h,fun _=>by omega⟩
 . have h1:=X8h (x:=v - a * max t l.lev) hr hv.1 (by omega)
   refine ⟨by omega,by omega,fun _=>by omega,fun h=>by omega⟩
 . refine ⟨by omega,by omega,fun _=>by omega,fun h=>by omega⟩
 . have h1:=X8h (x:=v - a * l.lev) hr hv.1 (by omega)
   refine ⟨by omega,by omega,fun _=>by omega,fun h=>by omega⟩
theorem Z7z {V:List Int} {m i n:Int} (h:Bnd V m) {m':Int} (hm:m <= m') (hi:i = -1 ∨ (0 <= i /\ i < V.length)) (hn:0 <= i -> 0 <= ix V i.toNat + n /\ ix V i.toNat + n <= m'):Bnd (Q5x V i n) m':=by
 intro k;have hk:=h k;unfold Q5x
 rcases hi with rfl | ⟨h0,h1⟩
 . rw [if_pos (by decide)]; omega
 . rw [if_neg (by omega),Z5d V (by omega)]
   split
   . exact hn h0
   . omega
theorem Z1s {b:Q1j} (hb:b.Ok) (k:Nat) (hk:k < b.nodes.length):0 <= Q6m b.nodes k /\ Q6m b.nodes k <= 1000:=by have:=hb.areas k hk; omega
theorem Z4q {b:Q1j} (hb:b.Ok) {c:Cond} (hc:c.tide <= 1024) {k:Nat} (hk:k < b.links.length) {U:List Int} (hl:U.length = b.nodes.length) {m:Int} (hm:0 <= m) (h:Bnd U m) :
    Bnd (Q5x U (lk b.links k).src (-(Q2z b c k U))) m /\ Bnd (Q5x (Q5x U (lk b.links k).src (-(Q2z b c k U))) (lk b.links k).dst (Q2z b c k U)) (2 * m + 1024000):=by
 have hf:=hb.links k hk;obtain ⟨e1,e2,e3,e4⟩:=Fits.J7e hf;have hn:(lk b.links k).X4j.node.toNat < b.nodes.length:=by omega
 have hv:=h (lk b.links k).X4j.node.toNat;obtain ⟨f1,f2,f3,f4⟩:=Z7w hf (a:=Q6m b.nodes (lk b.links k).X4j.node.toNat) (t:=c.tide) c.opn hv (Z1s hb _ hn) hc;have hs:(lk b.links k).X4j.src = (lk b.links k).src:=rfl;have hd:(lk b.links k).X4j.dst = (lk b.links k).dst:=rfl;rw [hs] at e1 f3 f4;rw [hd] at e2;have key:Bnd (Q5x U (lk b.links k).src (-(Q2z b c k U))) m:=by
  refine Z7z h (Int.le_refl _) (by rw [hl]; exact e1) fun h0=>?_
  have hsn:(lk b.links k).X4j.node = (lk b.links k).src:=by unfold Lk.node; rw [hs,if_neg (by omega)]
  have:=f3 (by omega)
  unfold Q2z;rw [hsn] at this hv ⊢;omega
 refine ⟨key,Z7z key (by omega) (by rw [X3h,hl]; exact e2) fun h0=>?_⟩
 have hk2:=key (lk b.links k).dst.toNat
 by_cases hsea:(lk b.links k).src = -1
 . have hsn:(lk b.links k).X4j.node = (lk b.links k).dst:=by unfold Lk.node; rw [hs,if_pos hsea,hd]
   have e:Q5x U (lk b.links k).src (-(Q2z b c k U)) = U:=by unfold Q5x; rw [if_pos (by omega)]
   rw [e];have:=f4 hsea;unfold Q2z;rw [hsn] at this ⊢;omega
 . have:=f3 hsea
   have hfl:Q2z b c k U = (lk b.links k).X4j.flow (ix U (lk b.links k).X4j.node.toNat) (Q6m b.nodes (lk b.links k).X4j.node.toNat) c.tide c.opn:=rfl;rw [<- hfl] at this;omega
def Z6d (m:Int):Nat -> Int
 | 0=>m
 | k + 1=>2 * Z6d m k + 1024000
theorem Q8m {m:Int} (hm:0 <= m):∀ k,0 <= Z6d m k
 | 0=>hm
 | k + 1=>by have:=Q8m hm k; unfold Z6d; omega
theorem Z9z {m:Int} (hm:0 <= m):∀ {j k:Nat},j <= k -> Z6d m j <= Z6d m k
 | j, 0, h => by have : j = 0 := by omega
                 subst this; exact Int.le_refl _
 | j,k + 1,h=>by
   by_cases e:j = k + 1
   . subst e; exact Int.le_refl _
   . have:=Z9z hm (j:=j) (k:=k) (by omega)
     have h2:=Q8m hm k;show Z6d m j <= 2 * Z6d m k + 1024000;omega
theorem K0k {m:Int} (hm:0 <= m /\ m <= 200000000) {k:Nat} (hk:k <= 16):Z6d m k <= 100000000000000:=by
 have h1:=Z9z hm.1 hk;have h2:Z6d m 16 <= 100000000000000:=by simp only [Z6d]; omega
 omega
theorem Y5t {b:Q1j} (hb:b.Ok) {c:Cond} (hc:c.tide <= 1024) {U:List Int} (hl:U.length = b.nodes.length) {m:Int} (hm:0 <= m) (h:Bnd U m) (q:Bool):∀ {k:Nat},k <= b.links.length -> Bnd (Q5b b c U q k).1 (Z6d m k)
 | 0,_=>h
 | k + 1,hk=>by
   have ih:=Y5t hb hc hl hm h q (k:=k) (by omega)
   exact (Z4q hb hc (by omega) (by rw [Q4n,hl]) (Q8m hm k) ih).2
theorem X7n {V X:List Int} (hV:Bnd V 100000000) (hX:∀ k,0 <= ix X k /\ ix X k <= 100000):∀ k,k <= V.length -> (∀ j,0 <= ix (Q8j V X k).1 j /\ ix (Q8j V X k).1 j <= 100100000) /\ ∀ j,k <= j -> ix (Q8j V X k).1 j = ix V j
 | 0,_=>⟨fun j=>by have:=hV j; unfold Q8j; dsimp only; omega,fun _ _=>rfl⟩
 | k + 1,hk=>by
   obtain ⟨h1,h2⟩:=X7n hV hX k (by omega)
   have hkk:=h2 k (Nat.le_refl _);have hv:=hV k;have hx:=hX k;have hl:=Q6w V X k;have e:∀ j,ix (Q8j V X (k + 1)).1 j = if k = j then ix V k + ix X k else ix (Q8j V X k).1 j:=by
    intro j;show ix (Q5x (Q8j V X k).1 k (ix X k)) j = _;unfold Q5x;rw [if_neg (by omega),Int.toNat_natCast,Z5d _ (by omega),hkk]
   refine ⟨fun j=>?_,fun j hj=>?_⟩
   . have:=h1 j
     rw [e]
     split <;> omega
   . rw [e,if_neg (by omega)]
     exact h2 j (by omega)
end Go.Tw
namespace Go.Proofs
open Go.RowKit Go.Tw Go.Flow Go.Ba
def X5e (s:ByteArray):Nat:=if s = Q2m then 200 else if s = Y7b then 201 else if s = Q6x then 203 else if s = Z1g then 205 else 206
def J5i (s:ByteArray):Bool:=decide (s = Q2m) || decide (s = Y7b)
def J4m (s:ByteArray):Bool:=decide (s = Q6x)
theorem Y2s {s:ByteArray} (h:Z6i s ≠ none):Q7s s X6p = some (kdV (J5i s) (J4m s) (X5e s)):=by
 unfold X6p X5e J5i J4m;unfold Z6i at h
 by_cases h1:s = Q2m
 . subst h1; kernel_rfl
 by_cases h2:s = Y7b
 . subst h2; kernel_rfl
 by_cases h3:s = Q6x
 . subst h3; kernel_rfl
 by_cases h4:s = Z1g
 . subst h4; kernel_rfl
 by_cases h5:s = Z6u
 . subst h5; kernel_rfl
 . rw [if_neg h1,if_neg h2,if_neg h3,if_neg h4,if_neg h5] at h; exact absurd rfl h
theorem Y5c (a b:Bool) (f:Nat) (w:World):(Instr.field 273 (kdV a b f) 1).run Tryz.prog w = .ok (.func (.func f) #[] #[]) w:=by kernel_rfl
theorem Tryz.J6d (w:World):(isAgg 106).run Tryz.prog w = .ok true w:=by kernel_rfl
theorem Tryz.J0e (w:World):(sizeOf 106).run Tryz.prog w = .ok 5 w:=by kernel_rfl
theorem Z2i (s:ByteArray) (args:Array Value) (w:World):(callFunc (X5e s) args).run Tryz.prog w = .ok (.enter (X5e s) args) w:=by
 unfold X5e
 split
 . exact enters_of Tryz.func200 (by kernel_rfl) rfl _ _
 split
 . exact enters_of Tryz.func201 (by kernel_rfl) rfl _ _
 split
 . exact enters_of Tryz.func203 (by kernel_rfl) rfl _ _
 split
 . exact enters_of Tryz.func205 (by kernel_rfl) rfl _ _
 . exact enters_of Tryz.func206 (by kernel_rfl) rfl _ _
theorem J4b (w:World) (l:Q6r) (hk:Z6i l.kind ≠ none) (v ar td:Int) (o:Bool) (hb:PlB l.lev l.rate v ar td) :
    Calls Tryz.prog (X5e l.kind) #[plV l.kind l.src l.dst l.lev l.rate v ar td o] w fun e w'=>e = .returned (.int .i64 (l.X4j.flow v ar td o)) /\ Ext w w':=by
 unfold X5e Q6r.X4j Lk.flow;unfold Z6i at hk ⊢
 by_cases h1:l.kind = Q2m
 . simp only [if_pos h1]; exact Z2n w _ _ _ _ _ _ _ _ _ hb
 by_cases h2:l.kind = Y7b
 . simp only [if_neg h1,if_pos h2]; exact J2w w _ _ _ _ _ _ _ _ _ hb
 by_cases h3:l.kind = Q6x
 . simp only [if_neg h1,if_neg h2,if_pos h3]; exact Z1o w _ _ _ _ _ _ _ _ _ hb
 by_cases h4:l.kind = Z1g
 . simp only [if_neg h1,if_neg h2,if_neg h3,if_pos h4]; exact J4g w _ _ _ _ _ _ _ _ _ hb
 by_cases h5:l.kind = Z6u
 . simp only [if_neg h1,if_neg h2,if_neg h3,if_neg h4,if_pos h5]; exact J2n w _ _ _ _ _ _ _ _ _ hb
 . rw [if_neg h1,if_neg h2,if_neg h3,if_neg h4,if_neg h5] at hk; exact absurd rfl hk
theorem Q2c.two {w w':World} {go gb b:Nat} {V:List Int} {q:Bool} {tb:Nat} {l:List (ByteArray × Value)} (h:Q2c w tb l) (hs:StB w go gb b V q) (ht:Two gb b w w'):Q2c w' tb l:=by
 obtain ⟨a,c,hb,he⟩:=h;refine ⟨a,c,?_,he⟩;rw [ht.2 tb]
 . exact hb
 . rintro rfl; have:=hs.q; unfold Blk at this; rw [hb] at this; cases this
 . rintro rfl; have:=hs.r; unfold Blk at this; rw [hb] at this; cases this
theorem Q0i.two {α:Type} {w w':World} {base gb b:Nat} {e:TypeId} {enc:α -> Value} {v:Value} {l:List α} (h:Q0i w base e enc v l) (h1:gb < base) (h2:b < base) (ho:Two gb b w w'):Q0i w' base e enc v l:=by
 obtain ⟨h3,h4⟩:=h;refine ⟨h3,?_⟩
 rcases h4 with h4 | ⟨g',cap,cur,hv,hb,hg',r⟩
 . exact .inl h4
 . exact .inr ⟨g',cap,cur,hv,hb,by rw [ho.2 _ (by omega) (by omega)]; exact hg',r⟩
structure J9o (x:Q1j) (c:Cond) (U:List Int) (q:Bool) (j:Nat) (kd:ByteArray) (lf lt la lr:Int) (nd:Nat) (fl:Int):Prop where
 inN:nd < x.nodes.length
 node:(if lf = -1 then lt else lf) = (nd:Int)
 pl:PlB la lr (ix (Q5b x c U q j).1 nd) (Q6m x.nodes nd) c.tide
 kind:Z6i kd ≠ none
 flow:(Q6r.mk kd lf lt la lr).X4j.flow (ix (Q5b x c U q j).1 nd) (Q6m x.nodes nd) c.tide c.opn = fl
 bd:-200000000000000 <= fl /\ fl <= 200000000000000
 src:lf = -1 ∨ (0 <= lf /\ lf < x.nodes.length)
 dst:lt = -1 ∨ (0 <= lt /\ lt < x.nodes.length)
 b1:∀ k,-4000000000000000000 <= ix (Q5b x c U q j).1 k + -fl /\ ix (Q5b x c U q j).1 k + -fl <= 4000000000000000000
 b2:∀ k,-4000000000000000000 <= ix (Q5x (Q5b x c U q j).1 lf (-fl)) k + fl /\ ix (Q5x (Q5b x c U q j).1 lf (-fl)) k + fl <= 4000000000000000000
 next:Q5b x c U q (j + 1) = (Q5x (Q5x (Q5b x c U q j).1 lf (-fl)) lt fl,((Q5b x c U q j).2.1 && Q6t (Q5x (Q5b x c U q j).1 lf (-fl)) lf) && Q6t (Q5x (Q5x (Q5b x c U q j).1 lf (-fl)) lt fl) lt,(Q5b x c U q j).2.2 ++ [fl])
theorem J9x {x:Q1j} (hb:x.Ok) {c:Cond} (hc:-1024 <= c.tide /\ c.tide <= 1024) {U:List Int} (hl:U.length = x.nodes.length) (hU:Bnd U 100100000) (q:Bool) {j:Nat} (hj:j < x.links.length) {kd:ByteArray} {lf lt la lr:Int} (hlk:lk x.links j = ⟨kd,lf,lt,la,lr⟩) :
    ∃ nd fl,J9o x c U q j kd lf lt la lr nd fl:=by
 have hm0:(0:Int) <= Z6d 100100000 j:=Q8m (by decide) j
 have hm1:Z6d 100100000 j <= 100000000000000:=K0k ⟨by decide,by decide⟩ (by have:=hb.many; omega)
 have hB:=Y5t hb hc.2 hl (by decide) hU q (k:=j) (by omega)
 have hLB:=Z4q hb hc.2 hj (U:=(Q5b x c U q j).1) ((Q4n ..).trans hl) hm0 hB;have hf:=hb.links j hj;have hlv:=hb.levs j hj;have hk:=hb.kinds j hj;obtain ⟨e1,e2,e3,e4⟩:=Fits.J7e hf;have hn:(lk x.links j).X4j.node.toNat < x.nodes.length:=by omega
 have hv:=hB (lk x.links j).X4j.node.toNat;obtain ⟨f1,f2,_,_⟩:=Z7w hf (a:=Q6m x.nodes (lk x.links j).X4j.node.toNat) (t:=c.tide) c.opn hv (Z1s hb _ hn) hc.2;have hfe:Q2z x c j (Q5b x c U q j).1 = (lk x.links j).X4j.flow (ix (Q5b x c U q j).1 (lk x.links j).X4j.node.toNat) (Q6m x.nodes (lk x.links j).X4j.node.toNat) c.tide c.opn:=rfl;have hnx:Q5b x c U q (j + 1) = (Q5x (Q5x (Q5b x c U q j).1 (lk x.links j).src (-(Q2z x c j (Q5b x c U q j).1))) (lk x.links j).dst (Q2z x c j (Q5b x c U q j).1),((Q5b x c U q j).2.1 && Q6t (Q5x (Q5b x c U q j).1 (lk x.links j).src (-(Q2z x c j (Q5b x c U q j).1))) (lk x.links j).src) && Q6t (Q5x (Q5x (Q5b x c U q j).1 (lk x.links j).src (-(Q2z x c j (Q5b x c U q j).1))) (lk x.links j).dst (Q2z x c j (Q5b x c U q j).1)) (lk x.links j).dst,(Q5b x c U q j).2.2 ++ [Q2z x c j (Q5b x c U q j).1]):=rfl;have har:=Z1s hb _ hn;rw [<- hfe] at f1 f2;have hr:=hf.rate;have ha:=hf.at0;rw [hlk] at hfe hnx hLB e1 e2 e3 e4 hk hlv hr ha hn har hv;refine ⟨_,Q2z x c j (Q5b x c U q j).1,⟨hn,?_,⟨⟨ha,hlv.1⟩,⟨hr,hlv.2⟩,⟨hv.1,by omega⟩,har,by omega⟩,hk,hfe.symm,by omega,e1,e2,fun k=>?_,fun k=>?_,hnx⟩⟩
 . show (if lf = -1 then lt else lf) = _
   have:(Q6r.mk kd lf lt la lr).X4j.node = if lf = -1 then lt else lf:=rfl
   rw [<- this]; omega
 . have:=hB k; omega
 . have:=hLB.1 k; dsimp only at this; omega
theorem Y9o {wr w':World} {v:Value} {B base:Nat} {e:TypeId} {n size:Nat} {xs:List Value} {o:Obj} (hown:wr.ownsRow base e size v n xs) (hb:B <= base) (hB:B <= wr.heap.size) (hg:(wr.alloc o).grownBy w' v.ownBlock):Below B wr w' :=
 Below.grown ((Below.refl B wr).alloc hB o) hg (by simp; omega) (fun k hk=>by have:=(hown.lt k hk).1; omega)
theorem Q2c.low {w w':World} {b M:Nat} {l:List (ByteArray × Value)} (h:Q2c w b l) (hx:Below M w w') (hb:b < M):Q2c w' b l:=by
 obtain ⟨a,c,he,h2⟩:=h;exact ⟨a,c,by rw [Below.block hx b hb]; exact he,h2⟩
theorem J1b {w:World} {b:Nat} {T:TypeId} {V:List Int} {n:Nat} (h:Blk w b T (Z2a V)) (hn:V.length = n) (hl:n <= 17592186043904):Q0e w (.slice (some ⟨b,0,none⟩) n n) V:=by
 subst hn;refine ⟨fun j=>.int .i64 (ix V j),⟨some ⟨b,0,none⟩,V.length,rfl,hl,Nat.le_refl _,fun j hj=>⟨b,0,rfl,?_⟩⟩,fun j hj=>?_⟩
 . have hj':j < V.length:=by omega
   rw [Nat.zero_add,h.cell];simp [Z2a,hj',ix]
 . simp [hj,ix]
theorem Y0e {w:World} {b:Nat} {T:TypeId} {V:List Int} {n:Nat} (h:Blk w b T (Z2a V)) (hn:V.length = n) (hl:n <= maxLen):Q0i w 0 T (.int .i64) (.slice (some ⟨b,0,none⟩) n n) V:=by
 subst hn;refine ⟨by simp,.inr ⟨b,V.length,Z2a V,rfl,Nat.zero_le _,h,Nat.le_refl _,hl,by simp [Z2a],by simp [Z2a,List.take_of_length_le]⟩⟩
theorem Z9i {α:Type} {enc:α -> Value} {T:TypeId} {w:World} {base:Nat} {v:Value} {l:List α} (h:Q0i w base T enc v l):Q0i w 0 T enc v l:=by
 obtain ⟨h1,h2⟩:=h;refine ⟨h1,?_⟩
 rcases h2 with h2 | ⟨g,cap,cur,hv,hbg,r⟩
 . exact .inl h2
 . exact .inr ⟨g,cap,cur,hv,Nat.zero_le _,r⟩
end Go.Proofs
namespace Go.Proofs
open Go.RowKit Go.Tw Go.Flow
attribute [local go_sem] Oper.semAt_some
theorem X9t (w:World) (b:Bool) (x:Int) :
    Calls Tryz.prog 36 #[.bool b,.int .i64 x] w fun e w'=>e = .returned (.int .i64 (Q1f b x)) /\ w = w':=by
 cases b <;>
 . go_enter Tryz.func36,Tryz.ntmps36
   go_wp2;go_ret;exact ⟨rfl,rfl⟩
theorem X5o (w:World) (v:Value) (l:List Int) (hv:Q0e w v l) :
    Calls Tryz.prog 75 #[v] w fun e w'=>e = .returned (.int .i64 (Q0k l)) /\ w = w':=by
 obtain ⟨A,cap,rfl,hl,hcap,hc⟩:=hv.opened;clear hv;go_enter Tryz.func75,Tryz.ntmps75;go_wp2
 go_loop [7] (fun i=>∃ k:Nat,k <= l.length /\ i = .int .i64 k /\ Q0k (l.drop k) = Q0k l) (fun i=>l.length - (intOf i).toNat)
 case atStart=>exact ⟨0,Nat.zero_le _,rfl,rfl⟩
 case round =>
  obtain ⟨k,hk,rfl,hr⟩:=hrel;have HR:=Lib.hid hr; clear hr
  by_cases hlt:k < l.length
  . obtain ⟨b,off,rfl,hcell⟩:=hc k hlt
    clear hc
    by_cases hx:ix l k = 0
    . have HX:=Lib.hid hx
      have hx1:(ix l k != 0) = false:=by simp [hx]
      clear hx;go_wp2;go_round
      case rel=>exact ⟨k + 1,by omega,by go_num,by rw [<- HR.out,Q3q hlt,Q0k,if_pos HX.out]⟩
      case measure=>simp [intOf]; omega
    . have hx1:(ix l k != 0) = true:=by simp [hx]
      have HX:=Lib.hid hx; clear hx;go_wp2;go_ret;exact ⟨Q1c (by rw [<- HR.out,Q3q hlt,Q0k,if_neg HX.out]),rfl⟩
  . clear hc
    go_wp2;go_ret;exact ⟨Q1c (by rw [<- HR.out,List.drop_eq_nil_of_le (by omega)]; rfl),rfl⟩
theorem Q8l (w:World) (x a b:Int) :
    Calls Tryz.prog 71 #[.int .i64 x,.int .i64 a,.int .i64 b] w fun e w'=>e = .returned (.int .i64 (Q0g x a b)) /\ w = w':=by
 unfold Q0g
 by_cases h1:x < a
 . rw [if_pos (.inl h1)]
   go_enter Tryz.func71,Tryz.ntmps71;go_wp2;go_ret;exact ⟨rfl,rfl⟩
 . by_cases h2:b < x
   . rw [if_pos (.inr h2)]
     go_enter Tryz.func71,Tryz.ntmps71;go_wp2;go_ret;exact ⟨rfl,rfl⟩
   . rw [if_neg (by omega)]
     go_enter Tryz.func71,Tryz.ntmps71;go_wp2;go_ret;exact ⟨rfl,rfl⟩
theorem Y6a (w:World) (x:Int) :
    Calls Tryz.prog 153 #[.int .i64 x] w fun e w'=>e = .returned (.int .i64 (Q0g x (-1024) 1024)) /\ w = w':=by
 go_enter Tryz.func153,Tryz.ntmps153;go_wp2_with (go_at_call 71; refine (Q8l _ x (-1024) 1024).mono ?_; rintro e w' ⟨rfl,rfl⟩);go_ret;exact ⟨rfl,rfl⟩
theorem X8s (w:World) (x:Int) :
    Calls Tryz.prog 155 #[.int .i64 x] w fun e w'=>e = .returned (.int .i64 (Q0g x 0 100000)) /\ w = w':=by
 go_enter Tryz.func155,Tryz.ntmps155;go_wp2_with (go_at_call 71; refine (Q8l _ x 0 100000).mono ?_; rintro e w' ⟨rfl,rfl⟩);go_ret;exact ⟨rfl,rfl⟩
theorem Y0l (w:World) (x:Int) :
    Calls Tryz.prog 180 #[.int .i64 x] w fun e w'=>e = .returned (.int .i64 (Q0g x 0 100000000)) /\ w = w':=by
 go_enter Tryz.func180,Tryz.ntmps180;go_wp2_with (go_at_call 71; refine (Q8l _ x 0 100000000).mono ?_; rintro e w' ⟨rfl,rfl⟩);go_ret;exact ⟨rfl,rfl⟩
theorem X1c (w:World) (v:Value) (l:List Int) (g:Nat) (f:Int -> Int) (hv:Q0e w v l) (hle:l.length <= 4096) (eg:∀ args w,(callFunc g args).run Tryz.prog w = .ok (.enter g args) w)
    (hf:∀ W x,Calls Tryz.prog g #[.int .i64 x] W fun e W'=>e = .returned (.int .i64 (f x)) /\ W = W') :
    Calls Tryz.prog 154 #[v,.func (.func g) #[] #[]] w fun e w'=>∃ x,e = .returned x /\ Q0e w' x (l.map f) /\ Ext w w':=by
 obtain ⟨i0,hi,hz0,hz1,hz2⟩:=info_parts Tryz.X4d;obtain ⟨A,cap,rfl,hl,hcap,hc⟩:=hv.opened;have HC:=Lib.hid hc;have HF:=Lib.hid hf;clear hv hc hf;go_enter Tryz.func154,Tryz.ntmps154;go_wp2
 go_loopw [5,10] (fun o i wr=>∃ (k:Nat),k <= l.length /\ i = .int .i64 k /\ Q0i wr w.heap.size 34 (.int .i64) o ((l.map f).take k) /\ Ext w wr) (fun _ i _=>l.length - (intOf i).toNat)
 case atStart=>exact ⟨0,Nat.zero_le _,rfl,Q0i.nil _ _ _ _,Ext.refl _⟩
 case round =>
  obtain ⟨k,hk,rfl,hown,hx⟩:=hrel;have hlen:((l.map f).take k).length = k:=by rw [List.length_take,List.length_map]; omega
  by_cases hlt:k < l.length
  . obtain ⟨b,off,rfl,hcell⟩:=HC.out k hlt
    have HTK:=Lib.hid (Y8y f l hlt);obtain ⟨s,hs⟩:∃ s,ix l k = s:=⟨_,rfl⟩;have HFS:=Lib.hid (HF.out wr s);rw [hs] at hcell HTK;obtain ⟨y,hy⟩:∃ y,f s = y:=⟨_,rfl⟩;rw [hy] at HFS HTK;replace hcell:=hx.cell hcell;have hll:((l.map f).take k).length <= 4096:=by omega
    clear hs hlen hy;go_wp2_with (first | (refine HFS.out.mono ?_; rintro e w9 ⟨rfl,rfl⟩) | (at_builtin; refine wpList_append_own _ rfl _ _ 178 rfl (w.heap.size) 34 i0 (.int .i64 0) 1 8 Tryz.underlying178 hi hz0 hz1 hz2 rfl (by decide) _ _ _ rfl (World.ownsRow.alloc hown _) ⟨wr.heap.size,0,none⟩ 1 1 [.int .i64 y] rfl rfl ?_ ?_ ?_ ?_ ?_ ?_; exact Q4p _ _ _; (focus (simp [Value.oneCell'])); (focus (unfold maxLen; omega)); (focus omega); (focus (have:=hx.size; simp at this ⊢; omega)); intro v' w1 hown' hgrow _))
    have hx':=Q3b hx hown (Nat.le_refl _) hgrow;go_wp2;go_roundw
    case rel=>exact ⟨k + 1,by omega,by go_num,by rw [<- HTK.out]; exact Q0i.snoc hown',hx'⟩
    case measure=>simp [intOf]; omega
  . have HE:Hid ((l.map f).take k = l.map f):=Lib.hid (by rw [List.take_of_length_le (by rw [List.length_map]; omega)])
    rw [HE.out] at hown;have HOWN:=Lib.hid hown;clear hown hlen;go_wp2;go_ret;exact ⟨_,rfl,HOWN.out.ints (by simp; omega),hx⟩
end Go.Proofs
namespace Go.Proofs
open Go.RowKit Go.Tw Go.Flow
attribute [local go_sem] Oper.semAt_some
theorem Y8l (w:World) (v:Value) (l:List Int) (hv:Q0e w v l) (hle:l.length <= 4096) :
    Calls Tryz.prog 154 #[v,.func (.func 180) #[] #[]] w fun e w'=>∃ x,e = .returned x /\ Q0e w' x (l.map fun x=>Q0g x 0 100000000) /\ Ext w w' :=
 X1c w v l _ _ hv hle (enters_of Tryz.func180 (by kernel_rfl) rfl) (fun W x=>Y0l W x)
theorem Y6r (w:World) (v:Value) (l:List Int) (hv:Q0e w v l) (hle:l.length <= 4096) :
    Calls Tryz.prog 154 #[v,.func (.func 155) #[] #[]] w fun e w'=>∃ x,e = .returned x /\ Q0e w' x (l.map fun x=>Q0g x 0 100000) /\ Ext w w' :=
 X1c w v l _ _ hv hle (enters_of Tryz.func155 (by kernel_rfl) rfl) (fun W x=>X8s W x)
abbrev ndC (s:ByteArray) (a l:Int):Array Value:=#[.string s,.int .i64 a,.int .i64 l]
theorem Z8l (w:World) (s:ByteArray) (a l v:Int) (ha:1 <= a /\ a <= 1000) (hv:0 <= v /\ v <= 1000000000000000) :
    Calls Tryz.prog 156 #[.agg (ndC s a l),.int .i64 v] w fun e w'=>e = .returned (.int .i64 (v / a)) /\ Ext w w':=by
 have hbox:=Ext.box w (.cells (ndC s a l) 105);have K0:=Blk.made w 105 (ndC s a l);have hq:v.tdiv a = v / a:=Int.tdiv_eq_ediv_of_nonneg hv.1;have hd:=X8h (x:=v) ha.1 hv.1 (Int.le_refl _);have hd0:0 <= v / a:=Int.ediv_nonneg hv.1 (by omega)
 have w1:IntKind.i64.wrap (v.tdiv a) = v.tdiv a:=Q2r (by omega) (by omega)
 have ha0:¬ (a:Int) = 0:=by omega
 have HQ:=Lib.hid hq;have c0:=(K0).cell 0;have c1:=(K0).cell 1;have c2:=(K0).cell 2;simp only [Go.Tw.gA,Go.Tw.gB,Go.Tw.gC] at c0 c1 c2;clear K0 hd hd0 hq;go_enter Tryz.func156,Tryz.ntmps156;go_wp2;go_ret;exact ⟨Q1c HQ.out,hbox⟩
theorem Z8m {w:World} {g:Nat} {T:TypeId} {a b:Int} (h:Blk w g T #[.int .i64 a,.int .i64 b]):Q0e w (.slice (some ⟨g,0,none⟩) 2 2) [a,b]:=by
 refine ⟨fun j=>if j = 0 then .int .i64 a else .int .i64 b,⟨some ⟨g,0,none⟩,2,rfl,by simp,Nat.le_refl _,fun j hj=>⟨g,0,rfl,?_⟩⟩,fun j hj=>?_⟩
 . have hj':j < 2:=hj
   rw [h.cell]
   match j,hj' with
   | 0,_=>rfl
   | 1,_=>rfl
 . match j,hj with
   | 0,_=>rfl
   | 1,_=>rfl
def Y7e (b:Q1j) (V:List Int):Int:=Q0k [Q1f ((V.length:Int) != b.nodes.length) 2,Q0k (V.map fun x=>Q0g x 0 100000000)]
theorem X6y (w:World) (vb vv:Value) (b:Q1j) (V:List Int) (hb:Q2g w vb b) (hv:Q0e w vv V) (hle:V.length <= 4096) :
    Calls Tryz.prog 152 #[vb,vv] w fun e w'=>e = .returned (.int .i64 (Y7e b V)) /\ Ext w w':=by
 obtain ⟨va,vl,rfl,h2⟩:=hb;obtain ⟨A,capa,rfl,-,-,-⟩:=h2.nodes.opened;obtain ⟨L,capl,rfl,-,-,-⟩:=h2.links.opened;obtain ⟨VA,capv,rfl,-,-,-⟩:=hv.opened;have HV:=Lib.hid hv;have HLE:=Lib.hid hle;obtain ⟨n,hn⟩:∃ z,b.nodes.length = z:=⟨_,rfl⟩;have HN:=Lib.hid hn;rw [hn];clear h2 hv hle hn;go_enter Tryz.func152,Tryz.ntmps152;go_wp2_with fail;change Calls _ _ _ (w.alloc (.cells #[.slice A n capa,.slice L b.links.length capl] 40)) _;obtain ⟨W,hWW,k0,HXW,eW⟩:=Q2y w 40 #[.slice A n capa,.slice L b.links.length capl];rw [hWW];clear hWW;refine (X9t _ _ 2).mono ?_;rintro e w2 ⟨rfl,hw⟩;subst hw;go_wp2_with fail;refine (Y8l _ _ V (HV.out.ext HXW.out) HLE.out).mono ?_;rintro e w2 ⟨u,rfl,hu,hx2⟩;go_wp2_with fail;refine (X5o _ _ _ hu).mono ?_;rintro e w3 ⟨rfl,hw⟩;subst hw;have HX2:=Lib.hid (HXW.out.trans hx2);clear hu hx2;obtain ⟨a1,h1⟩:∃ z,Q1f ((V.length:Int) != n) 2 = z:=⟨_,rfl⟩;obtain ⟨a2,h2⟩:∃ z,Q0k (V.map fun x=>Q0g x 0 100000000) = z:=⟨_,rfl⟩
 have HA:Hid (Y7e b V = Q0k [a1,a2]):=Lib.hid (by unfold Y7e; rw [HN.out,h1,h2])
 rw [h1,h2];clear h1 h2;go_wp2_with fail;refine (X5o _ _ [a1,a2] (Z8m (Blk.made _ _ _))).mono ?_;rintro e w4 ⟨rfl,hw⟩;subst hw;have HX4:=Lib.hid (HX2.out.trans (Ext.box w2 (.cells #[.int .i64 a1,.int .i64 a2] 34)));go_wp2;go_ret;exact ⟨Q1c HA.out.symm,HX4.out⟩
end Go.Proofs
namespace Go.Proofs
open Go.RowKit Go.Tw Go.Flow Go.Ba
attribute [local go_sem] Oper.semAt_some
theorem fits_any (w:World) (n:Int) (q:Bool) (g:Nat) (k:Nat) (hc:w.cell? ⟨g,0,none⟩ = some (.int .i64 k)) (h:if q then n = -1 else 0 <= n /\ n < k) :
    Calls Tryz.prog 175 #[.int .i64 n,.bool q,.pointer (some ⟨g,0,none⟩)] w fun e w'=>e = .returned (.bool true) /\ w = w':=by
 cases q with
 | true =>
   simp only [if_true] at h;subst h;go_enter Tryz.func175,Tryz.ntmps175;go_wp2;go_ret;exact ⟨rfl,rfl⟩
 | false =>
   simp only [Bool.false_eq_true,if_false] at h;obtain ⟨h0,h1⟩:=h;go_enter Tryz.func175,Tryz.ntmps175;go_wp2;go_ret;exact ⟨rfl,rfl⟩
end Go.Proofs
namespace Go.Tw
theorem Y9u {l:List (List Int)} (h:Asc l):l.Nodup:=h.imp fun h e=>by subst e; exact Q7i _ h
theorem Q3h {h:List (List Int)} {p:List Rul}:Q4l h p = 0 ↔ p.map Rul.classes = h:=by
 unfold Q4l
 constructor
 . intro e
   split at e
   . cases e
   . split at e
     . cases e
     . rename_i h2; exact Decidable.not_not.1 h2
 . intro e
   have hl:p.length = h.length:=by rw [<- e,List.length_map]
   rw [if_neg (fun hn=>hn hl),if_neg (fun hn=>hn e)]
end Go.Tw
namespace Go.Proofs
open Go.RowKit Go.Tw Go.Flow
attribute [local go_sem] Oper.semAt_some
theorem X8m {w:World} {A:Option Addr} {n cap:Nat} {l:List Int} (h:Q0e w (.slice A n cap) l) {k:Nat} (hk:k <= l.length):Q0e w (.slice A k cap) (l.take k):=by
 obtain ⟨c,⟨A',cap',hv,hn,hcap,hc⟩,h2⟩:=h;injection hv with e1 e2 e3;subst e1 e2 e3;have hlk:(l.take k).length = k:=by rw [List.length_take]; omega
 refine ⟨c,⟨A,cap,by rw [hlk],by omega,by omega,fun j hj=>hc j (by omega)⟩,fun j hj=>?_⟩
 rw [List.getElem_take];exact h2 j (by omega)
theorem Tryz.Y4m:(Tryz.prog.info? 4).map (fun i=>(i.zero,i.size,i.bytes)) = some (some (.bool false),1,1):=by kernel_rfl
end Go.Proofs
namespace Go.Proofs
open Go.RowKit Go.Tw Go.Flow
theorem Z5s (h:List Int) (row:List (List Int)):(X8c h row).length <= row.length + 1:=by
 unfold X8c;have hb:=(posB h row row.length).1;dsimp only
 split
 . omega
 . rw [List.length_append,List.length_append,List.length_take,List.length_drop,List.length_singleton]
   omega
theorem Y7a (s:Q0b) (t:Nat):∀ i,(s.Y2b t i).length <= i
 | 0=>by simp [Q0b.Y2b]
 | i + 1=>by
   have:=Y7a s t i;have:=Z5s ((Q0d s.members i).take (t + 1)) (s.Y2b t i);unfold Q0b.Y2b;omega
theorem Y2z (s:Q0b):∀ n,(s.X3k n).length <= n * s.members.length
 | 0=>by simp [Q0b.X3k]
 | n + 1=>by
   have:=Y2z s n;have:=Y7a s n s.members.length;unfold Q0b.X3k;rw [List.length_append,Nat.add_mul,Nat.one_mul];omega
theorem Z4p {s:Q0b} (hS:Q0m s):s.hist.length <= 48:=by
 have:=Y2z s s.ships.length;have h2:s.ships.length * s.members.length <= 6 * 8:=Nat.mul_le_mul hS.tides.2 hS.some.2;unfold Q0b.hist;omega
theorem J6l {s:Q0b} (hS:Q0m s) {p:List Rul} (hp:Q4l s.hist p = 0):p.length <= 48:=by
 have:=Z4p hS;rw [<- Q3h.1 hp,List.length_map] at this;exact this
end Go.Proofs
namespace Go.Proofs
open Go.RowKit Go.Tw Go.Flow
attribute [local go_sem] Oper.semAt_some
def Q4s (s:Q0b) (p:List Rul) (f:List Bool -> Int):Nat -> Int
 | 0=>0
 | k + 1=>Q4s s p f k + Q0h s.members k * f (Q0w p (Q0d s.members k))
theorem X9l (s:Q0b) (p:List Rul) (f:List Bool -> Int):∀ k,k <= s.members.length -> Q4s s p f k = ((s.members.take k).map fun m=>m.weight * f (Q0w p m.classes)).sum
 | 0,_=>by simp [Q4s]
 | k + 1,h=>by
   unfold Q4s;rw [X9l s p f k (by omega),List.take_succ_eq_append_getElem (by omega),List.map_append,List.sum_append]
   unfold Q0h Q0d;rw [Q0y _ (show k < s.members.length by omega)]
   simp
theorem Y3o (s:Q0b) (p:List Rul) (f:List Bool -> Int):Q4s s p f s.members.length = (s.members.map fun m=>m.weight * f (Q0w p m.classes)).sum:=by
 rw [X9l s p f _ (Nat.le_refl _),List.take_length]
theorem X8x {s:Q0b} (hS:Q0m s) (p:List Rul) {f:List Bool -> Int} {M:Int} (hM:0 <= M) (hf:∀ l:List Bool,l.length <= s.ships.length -> 0 <= f l /\ f l <= M):∀ k,k <= s.members.length -> 0 <= Q4s s p f k /\ Q4s s p f k <= k * (1000 * M)
 | 0,_=>by simp [Q4s]
 | k + 1,h=>by
   have ih:=X8x hS p hM hf k (by omega)
   have hw:=hS.weights k (by omega)
   have hc:=hf (Q0w p (Q0d s.members k)) (by rw [Q6z,(hS.shaped k (by omega)).1]; exact Nat.le_refl _)
   have h1:0 <= Q0h s.members k * f (Q0w p (Q0d s.members k)):=Int.mul_nonneg (by omega) hc.1
   have h2:Q0h s.members k * f (Q0w p (Q0d s.members k)) <= 1000 * M:=Int.mul_le_mul hw.2 hc.2 hc.1 (by omega)
   unfold Q4s;have h3:((k + 1:Nat):Int) * (1000 * M) = (k:Int) * (1000 * M) + 1000 * M:=by rw [Int.natCast_add,Int.add_mul]; simp
   rw [h3];omega
theorem J1l {s:Q0b} (hS:Q0m s) (l:List Bool) (hl:l.length <= s.ships.length):0 <= Q2s s l /\ Q2s s l <= 6000:=by
 unfold Q2s;have h6:=hS.tides.2;have:∀ k,k <= l.length -> 0 <= ((List.range k).map fun t=>if l.getD t false then ix s.ships t else 0).sum /\ ((List.range k).map fun t=>if l.getD t false then ix s.ships t else 0).sum <= k * 1000:=by
  intro k
  induction k with
  | zero=>intro _; simp
  | succ k ih =>
    intro hk;have:=ih (by omega)
    rw [List.range_succ,List.map_append,List.sum_append];have hd:=hS.delays (ix s.ships k) (by rw [Q5p (show k < s.ships.length by omega)]; exact List.getElem_mem _)
    have e:(List.map (fun t=>if l.getD t false = true then ix s.ships t else 0) [k]).sum = if l.getD k false = true then ix s.ships k else 0:=by simp
    rw [e]
    split <;> omega
 have:=this l.length (Nat.le_refl _);omega
theorem Y8h {s:Q0b} (hS:Q0m s) (l:List Bool) (hl:l.length <= s.ships.length):0 <= countB l /\ countB l <= 6:=by
 have:=countB_le l;have:=hS.tides.2;omega
end Go.Proofs
namespace Go.Proofs
open Go.RowKit Go.Tw Go.Flow
theorem Ext.frozen {a b:World} (h:Ext a b) {p:Addr} (hp:p.block < a.heap.size):b.frozen? p = a.frozen? p:=by
 obtain ⟨_,_,_,_,h5⟩:=h;unfold World.frozen?; rw [h5 _ hp]
end Go.Proofs
namespace Go.Tw
def Z6b (f:Nat -> List Int) (i:Nat):Bool:=!(List.range i).any fun j=>f j == f i
def Q5u (f:Nat -> List Int) (k i:Nat):List Nat:=(List.range k).filter fun j=>f j == f i
def X4c (f:Nat -> List Int) (k:Nat):List Nat:=(List.range k).filter (Z6b f)
theorem Z4m {f:Nat -> List Int} {i:Nat}:Z6b f i = true ↔ ∀ j,j < i -> f j ≠ f i:=by
 unfold Z6b;simp only [Bool.not_eq_true',List.any_eq_false,List.mem_range,beq_iff_eq]
theorem X8e (f:Nat -> List Int) (k i:Nat):Q5u f (k + 1) i = Q5u f k i ++ if f k == f i then [k] else []:=by
 unfold Q5u;rw [List.range_succ,List.filter_append]
 by_cases h:(f k == f i) = true
 . rw [if_pos h]; simp [h]
 . rw [if_neg h]; simp [h]
theorem Y0k {f:Nat -> List Int} {i:Nat} (h:Z6b f i = true):∀ {k:Nat},i < k -> (Q5u f k i).head? = some i
 | 0,hk=>absurd hk (Nat.not_lt_zero _)
 | k + 1,hk=>by
   rw [X8e]
   by_cases hi:i < k
   . rw [List.head?_append,Y0k h hi]; rfl
   . have e:i = k:=by omega
     subst e;have:Q5u f i i = []:=by
      unfold Q5u;rw [List.filter_eq_nil_iff];intro j hj hji;exact Z4m.1 h j (List.mem_range.1 hj) (by simpa using hji)
     rw [this,if_pos (by simp)]
     rfl
theorem X1o (f:Nat -> List Int) (k:Nat):X4c f (k + 1) = X4c f k ++ if Z6b f k then [k] else []:=by
 unfold X4c;rw [List.range_succ,List.filter_append]
 by_cases h:Z6b f k = true
 . rw [if_pos h]; simp [h]
 . rw [if_neg h]; simp [h]
theorem Y3g {f:Nat -> List Int} {k i:Nat} (hi:i < k):((Q5u f k i).head? == some i) = Z6b f i:=by
 by_cases h:Z6b f i = true
 . rw [Y0k h hi,h]; simp
 . have h':Z6b f i = false:=by simpa using h
   rw [h',beq_eq_false_iff_ne];intro hh;have hex:∃ j,j < i /\ f j = f i:=by
    apply Classical.byContradiction
    intro hno;exact h (Z4m.2 fun j hj e=>hno ⟨j,hj,e⟩)
   obtain ⟨j,hj,e⟩:=hex;have hs:(Q5u f k i).Pairwise (· < ·):=List.pairwise_lt_range.filter _;have hm:j ∈ Q5u f k i:=List.mem_filter.2 ⟨List.mem_range.2 (by omega),by simpa using e⟩
   cases hl:Q5u f k i with
   | nil=>rw [hl] at hm; cases hm
   | cons x l =>
     rw [hl] at hh hs hm;injection hh with hh;subst hh
     rcases List.mem_cons.1 hm with rfl | hm
     . omega
     . have:=(List.pairwise_cons.1 hs).1 j hm
       omega
def Y8e (s:Q0b) (i:Nat):List Int:=Q0d s.members i
theorem X4r (s:Q0b) (i:Nat):Q8e s i = Q5u (Y8e s) s.members.length i:=rfl
theorem X5h (s:Q0b):Q4q s = (X4c (Y8e s) s.members.length).map fun i=>⟨(Q5u (Y8e s) s.members.length i).map Int.ofNat,X3a s (Q5u (Y8e s) s.members.length i)⟩:=by
 unfold Q4q X4c;simp only [X4r]
 congr 1
 refine List.filter_congr fun i hi=>?_;exact Y3g (List.mem_range.1 hi)
end Go.Tw
namespace Go.Proofs
open Go.RowKit Go.Tw Go.Flow
def codeF (n T k i:Nat):Bool:=if T - k <= i then n.testBit (T - 1 - i) else false
def codeCells (n T k:Nat):Array Value:=((List.range T).map fun i=>Value.bool (codeF n T k i)).toArray
theorem Q7m (n T k:Nat):(codeCells n T k).size = T:=by simp [codeCells]
theorem Y2a (n T:Nat):madeCells #[.bool false] (T * 1) = codeCells n T 0:=by
 apply Array.ext_getElem?
 intro i
 by_cases hi:i < T
 . rw [Array.getElem?_eq_getElem (by rw [size_madeCells]; omega),Array.getElem?_eq_getElem (by rw [Q7m]; exact hi)]
   unfold madeCells codeCells codeF;simp [hi,Nat.mod_one];omega
 . rw [Array.getElem?_eq_none (by rw [size_madeCells]; omega),Array.getElem?_eq_none (by rw [Q7m]; omega)]
theorem J0v {w:World} {g:Nat} {T:TypeId} {l:List Bool} (h:Blk w g T (l.map Value.bool).toArray) (hl:l.length <= 1000):Q2k w (.slice (some ⟨g,0,none⟩) l.length l.length) l:=by
 refine ⟨fun j=>.bool (l.getD j false),⟨some ⟨g,0,none⟩,l.length,rfl,by omega,Nat.le_refl _,fun j hj=>⟨g,0,rfl,?_⟩⟩,fun j hj=>?_⟩
 . have hj':j < l.length:=by omega
   rw [h.cell]; simp [hj']
 . simp [hj]
end Go.Proofs
namespace Go.Proofs
open Go.RowKit Go.Tw Go.Flow
def J6v (P:Prop) (w w':World) (e:Ending):Prop:=∃ q,e = .returned (.bool q) /\ (q = true ↔ P) /\ Ext w w'
theorem qno {P:Prop} {w w':World} (h:¬ P) (hx:Ext w w'):J6v P w w' (.returned (.bool false)):=⟨false,rfl,⟨fun k=>(by cases k),fun k=>absurd k h⟩,hx⟩
theorem K0n {P:Prop} {w w':World} (h:P) (hx:Ext w w'):J6v P w w' (.returned (.bool true)):=⟨true,rfl,⟨fun _=>h,fun _=>rfl⟩,hx⟩
def Q9o (s:Q0b) (i:Nat):Prop:=(Q1d s.members i).size <= 60 /\ (Q0d s.members i).length <= 8 /\ (Q0n s.members i).length <= 8 /\ (Q0s s.members i).length <= 8
structure Q2x (s:Q0b):Prop where
 ships:s.ships.length <= 7
 members:s.members.length <= 9
 each:∀ i,i < s.members.length -> Q9o s i
theorem Z7k (w:World) (v:Value) (s:Q0b) (hv:Q0p w v s) :
    Calls Tryz.prog 13 #[v] w fun e w'=>J6v (Q2x s) w w' e:=by
 obtain ⟨a,b,rfl,h2⟩:=hv;obtain ⟨A,capa,rfl,hla,-,-⟩:=h2.ships.opened;obtain ⟨B,capb,rfl,hlb,-,hc⟩:=h2.members.opened;have HC:=Lib.hid hc;clear h2 hc;have HN1:Hid (¬ s.ships.length <= 7 -> ¬ Q2x s):=Lib.hid (fun h hs=>h hs.ships);have HN2:Hid (¬ s.members.length <= 9 -> ¬ Q2x s):=Lib.hid (fun h hs=>h hs.members);have HN3:Hid (∀ i,i < s.members.length -> ¬ Q9o s i -> ¬ Q2x s):=Lib.hid (fun i hi h hs=>h (hs.each i hi))
 by_cases h7:7 < s.ships.length
 . have h7I:(7:Int) < s.ships.length:=by omega
   have HF:=Lib.hid (HN1.out (by omega))
   clear h7;go_enter Tryz.func13,Tryz.ntmps13;go_wp2;go_ret;exact qno HF.out (Ext.box _ _)
 have h7I:¬ (7:Int) < s.ships.length:=by omega
 by_cases h9:9 < s.members.length
 . have h9I:(9:Int) < s.members.length:=by omega
   have HF:=Lib.hid (HN2.out (by omega))
   clear h9 h7;go_enter Tryz.func13,Tryz.ntmps13;go_wp2;go_ret;exact qno HF.out (Ext.box _ _)
 have h9I:¬ (9:Int) < s.members.length:=by omega
 have HOK:Hid ((∀ i,i < s.members.length -> Q9o s i) -> Q2x s):=Lib.hid (fun h=>⟨by omega,by omega,h⟩)
 clear h7 h9;go_enter Tryz.func13,Tryz.ntmps13;go_wp2_with fail;change Code.wp _ _ _ _ (w.alloc (.cells #[.int .i64 s.limit,.slice A s.ships.length capa,.slice B s.members.length capb] 55));obtain ⟨W,hWW,k0,HXW,eW⟩:=Q2y w 55 #[.int .i64 s.limit,.slice A s.ships.length capa,.slice B s.members.length capb];rw [hWW];clear hWW;have K0:=Lib.hid k0;clear k0 h7I h9I
 go_loopw [3] (fun i wr=>∃ k:Nat,k <= s.members.length /\ i = .int .i64 k /\ (∀ j,j < k -> Q9o s j) /\ Ext W wr) (fun i _=>s.members.length - (intOf i).toNat)
 case atStart=>exact ⟨0,Nat.zero_le _,rfl,fun j hj=>absurd hj (Nat.not_lt_zero j),Ext.refl _⟩
 case round =>
  obtain ⟨k,hk,rfl,hall,hxr⟩:=hrel;have HALL:=Lib.hid hall;have c2:=(K0.out.ext hxr).cell 2;simp only [Go.Tw.gA,Go.Tw.gB,Go.Tw.gC] at c2;have HXR:=Lib.hid hxr;clear hall hxr
  by_cases hlt:k < s.members.length
  . have hkI:(k:Int) < s.members.length:=by omega
    obtain ⟨bm,off,x,y,z,rfl,-,e0,e1,e2,e3,e4,hx,hy,hz,-⟩:=HC.out k hlt;obtain ⟨X,capx,rfl,-,-,-⟩:=hx.opened;obtain ⟨Y,capy,rfl,-,-,-⟩:=hy.opened;obtain ⟨Z,capz,rfl,-,-,-⟩:=hz.opened;replace e0:=(HXW.out.trans HXR.out).cell e0;replace e1:=(HXW.out.trans HXR.out).cell e1;replace e2:=(HXW.out.trans HXR.out).cell e2;replace e3:=(HXW.out.trans HXR.out).cell e3;replace e4:=(HXW.out.trans HXR.out).cell e4;have HSA:Hid (Q9o s k ↔ (Q1d s.members k).size <= 60 /\ (Q0d s.members k).length <= 8 /\ (Q0n s.members k).length <= 8 /\ (Q0s s.members k).length <= 8):=Lib.hid Iff.rfl;have HNK:=Lib.hid (HN3.out k hlt);obtain ⟨nm,hnm⟩:∃ x,Q1d s.members k = x:=⟨_,rfl⟩;obtain ⟨wt,hwt⟩:∃ x,Q0h s.members k = x:=⟨_,rfl⟩;obtain ⟨n1,hn1⟩:∃ x,(Q0d s.members k).length = x:=⟨_,rfl⟩;obtain ⟨n2,hn2⟩:∃ x,(Q0n s.members k).length = x:=⟨_,rfl⟩;obtain ⟨n3,hn3⟩:∃ x,(Q0s s.members k).length = x:=⟨_,rfl⟩;rw [hnm] at e0 HSA;rw [hwt] at e1;rw [hn1] at e2 HSA;rw [hn2] at e3 HSA;rw [hn3] at e4 HSA;clear hx hy hz hnm hwt hn1 hn2 hn3
    by_cases g0:60 < nm.size
    . have g0I:(60:Int) < (nm.size:Int):=by omega
      have HF:=Lib.hid (HNK.out (fun h=>by have:=(HSA.out.1 h).1; omega))
      clear g0
      go_light
      go_wp2;go_ret;exact qno HF.out (Ext.trans HXW.out (Ext.trans HXR.out (Ext.box _ _)))
    have g0I:¬ (60:Int) < (nm.size:Int):=by omega
    by_cases g1:8 < n1
    . have g1I:(8:Int) < (n1:Int):=by omega
      have HF:=Lib.hid (HNK.out (fun h=>by have:=(HSA.out.1 h).2.1; omega))
      clear g0 g1
      go_light
      go_wp2;go_ret;exact qno HF.out (Ext.trans HXW.out (Ext.trans HXR.out (Ext.box _ _)))
    have g1I:¬ (8:Int) < (n1:Int):=by omega
    by_cases g2:8 < n2
    . have g2I:(8:Int) < (n2:Int):=by omega
      have HF:=Lib.hid (HNK.out (fun h=>by have:=(HSA.out.1 h).2.2.1; omega))
      clear g0 g1 g2
      go_light
      go_wp2;go_ret;exact qno HF.out (Ext.trans HXW.out (Ext.trans HXR.out (Ext.box _ _)))
    have g2I:¬ (8:Int) < (n2:Int):=by omega
    by_cases g3:8 < n3
    . have g3I:(8:Int) < (n3:Int):=by omega
      have HF:=Lib.hid (HNK.out (fun h=>by have:=(HSA.out.1 h).2.2.2; omega))
      clear g0 g1 g2 g3
      go_light
      go_wp2;go_ret;exact qno HF.out (Ext.trans HXW.out (Ext.trans HXR.out (Ext.box _ _)))
    have g3I:¬ (8:Int) < (n3:Int):=by omega
    have HT:=Lib.hid (HSA.out.2 ⟨by omega,by omega,by omega,by omega⟩)
    clear g0 g1 g2 g3
    go_light
    go_wp2;go_roundw
    case rel=>exact ⟨k + 1,by omega,by go_num,fun j hj=>by
     by_cases hjk:j = k
     . rw [hjk]; exact HT.out
     . exact HALL.out j (by omega),Ext.trans HXR.out (Ext.box _ _)⟩
    case measure=>simp [intOf]; omega
  . have hkI:¬ (k:Int) < s.members.length:=by omega
    have hke:k = s.members.length:=by omega
    subst hke;have HT:=Lib.hid (HOK.out HALL.out);go_wp2;go_ret;exact K0n HT.out (HXW.out.trans HXR.out)
structure K0i (p:List Rul):Prop where
 rules:p.length <= 49
 each:∀ i,i < p.length -> (Q3a p i).length <= 8
structure K0g (l:List Grp):Prop where
 groups:l.length <= 9
 each:∀ i,i < l.length -> (X7s l i).length <= 9
end Go.Proofs
namespace Go.Proofs
open Go.RowKit Go.Tw Go.Flow
attribute [local go_sem] Oper.semAt_some
def a3 (a b c:Int):Array Value:=#[.int .i64 a,.int .i64 b,.int .i64 c]
theorem J6r (a b c:Int) (w:World):∀ i,i < 3 -> (part 3 (a3 a b c) (i * 1)).run Tryz.prog w = .ok (.int .i64 (ix [a,b,c] i)) w
 | 0,_=>by kernel_rfl
 | 1,_=>by kernel_rfl
 | 2,_=>by kernel_rfl
theorem Y2e (a b c a' b' c':Int) (d:Nat) (w:World):∀ is:List Nat,(∀ i ∈ is,i < 3) -> (Op.eqItems (d + 1) 3 1 (a3 a b c) (a3 a' b' c') is).run Tryz.prog w = .ok (is.all fun i=>ix [a,b,c] i == ix [a',b',c'] i) w
 | [],_=>rfl
 | i :: is,h=>by
   have hi:=h i (List.mem_cons_self ..);have ih:=Y2e a b c a' b' c' d w is (fun j hj=>h j (List.mem_cons_of_mem _ hj));rw [Op.eqItems];simp only [Sem.run_bind,J6r _ _ _ _ i hi,Result.andThen_ok,run_equalIn_int w d 3 .i64 .i64 _ _ Tryz.underlying3];cases hq:(ix [a,b,c] i == ix [a',b',c'] i) with
   | true=>simp [ih,hq]
   | false=>simp [hq]
theorem Z7i (w:World) (a b c a' b' c':Int):(binOp .eql 203 (.agg (a3 a b c)) (.agg (a3 a' b' c'))).run Tryz.prog w = .ok (.bool (a == a' && (b == b' && c == c'))) w:=by
 obtain ⟨i,hi⟩:∃ i,Tryz.prog.info? 3 = some i:=by
  have h:=Tryz.info3;cases hh:Tryz.prog.info? 3 with
  | none=>rw [hh] at h; cases h
  | some i=>exact ⟨i,rfl⟩
 have hu:Tryz.prog.underlying 203 = some (.array 3 3):=by kernel_rfl
 have hc:Tryz.prog.cellsOf 3 = 1:=by kernel_rfl
 rw [run_eql_struct,show (10000:Nat) = 9998 + 1 + 1 from rfl,run_equalIn_array w (9998 + 1) _ _ hu hi,hc,Y2e a b c a' b' c' 9998 w _ (fun i hi=>List.mem_range.1 hi)]
 have e:(List.range 3).all (fun i=>ix [a,b,c] i == ix [a',b',c'] i) = (a == a' && (b == b' && c == c')):=by
  rw [show List.range 3 = [0,1,2] from rfl]
  simp [ix]
 rw [e];rfl
theorem Z5o (w:World) (a b c a' b' c':Int):(binOp .neq 203 (.agg (a3 a b c)) (.agg (a3 a' b' c'))).run Tryz.prog w = .ok (.bool (!(a == a' && (b == b' && c == c')))) w:=by
 have h:=Z7i w a b c a' b' c';rw [run_eql_struct] at h;rw [run_neq_struct];generalize (Op.equalIn 10000 203 (.agg (a3 a b c)) (.agg (a3 a' b' c'))).run Tryz.prog w = r at h ⊢;cases r with
 | ok x w1 =>
   simp only [Result.andThen_ok] at h ⊢;injection h with h1 h2;injection h1 with h1;rw [h1,h2]
 | _=>simp [Result.andThen] at h
theorem Tryz.J1m:Tryz.prog.eqGuardType Tryz.prog.depth 203 = false:=by kernel_rfl
theorem Y6z {w:World} {o:Oper} {a:Act} (x y:Operand) {T2:TypeId} (hop:o.op = .binOp .neq 203 x y T2) {b c d b' c' d':Int} (hx:a.eval x = .agg (a3 b c d)) (hy:a.eval y = .agg (a3 b' c' d')):(execOp a.eval o).run Tryz.prog w = .ok (.value (.bool (!(b == b' && (c == c' && d == d'))))) w:=by
 unfold execOp;simp only [hop,hx,hy,Sem.run_bind,run_eqGuard_agg w .neq 203 x y _ _ Tryz.J1m,Result.andThen_ok,Z5o,Sem.run_pure]
theorem Tryz.J9l (w:World):(isAgg 203).run Tryz.prog w = .ok true w:=by kernel_rfl
theorem Tryz.J7z (w:World):(sizeOf 203).run Tryz.prog w = .ok 3 w:=by kernel_rfl
theorem Q0q (x:Int) (l:List Int):Q0k (x :: l) = if x = 0 then Q0k l else x:=rfl
theorem X4p (e:Int):Q1f true e = e:=rfl
theorem X5k (e:Int):Q1f false e = 0:=rfl
theorem J2z (s:Q0b) (p1 p2 p3 p4:Bool) (h1:((s.ships.length:Int) == 0) = p1) (h2:decide (6 < (s.ships.length:Int)) = p2) (h3:((s.members.length:Int) == 0) = p3) (h4:decide (8 < (s.members.length:Int)) = p4) {E:Int}
    (hE:Q0k [Q0g s.limit 0 1024,Q1f p1 12,Q1f p2 5,Q0r s.ships 1000,Q1f p3 12,Q1f p4 5] = E):s.err = if E = 0 then Q3t s.Q2w s.members.length 0 else E:=by
 have d1:p1 = true ↔ s.ships.length = 0:=by rw [<- h1,beq_iff_eq]; omega
 have d2:p2 = true ↔ 6 < s.ships.length:=by rw [<- h2,decide_eq_true_iff]; omega
 have d3:p3 = true ↔ s.members.length = 0:=by rw [<- h3,beq_iff_eq]; omega
 have d4:p4 = true ↔ 8 < s.members.length:=by rw [<- h4,decide_eq_true_iff]; omega
 clear h1 h2 h3 h4
 by_cases c0:Q0g s.limit 0 1024 = 0
 . rw [Q0q,if_pos c0] at hE
   by_cases c1:s.ships.length = 0
   . rw [Q0q,d1.2 c1,X4p] at hE
     rw [Z5a c0 c1,<- hE]; rfl
   . have e1:p1 = false:=by cases p1 with | true=>exact absurd (d1.1 rfl) c1 | false=>rfl
     rw [Q0q,e1,X5k,if_pos rfl] at hE
     by_cases c2:6 < s.ships.length
     . rw [Q0q,d2.2 c2,X4p] at hE
       rw [Z4z c0 c1 c2,<- hE]; rfl
     . have e2:p2 = false:=by cases p2 with | true=>exact absurd (d2.1 rfl) c2 | false=>rfl
       rw [Q0q,e2,X5k,if_pos rfl] at hE
       by_cases c3:Q0r s.ships 1000 = 0
       . rw [Q0q,if_pos c3] at hE
         rw [Y0t c0 c1 c2 c3]
         by_cases c4:s.members.length = 0
         . rw [Q0q,d3.2 c4,X4p] at hE
           rw [if_pos c4,<- hE]; rfl
         . have e3:p3 = false:=by cases p3 with | true=>exact absurd (d3.1 rfl) c4 | false=>rfl
           rw [Q0q,e3,X5k,if_pos rfl] at hE;rw [if_neg c4]
           by_cases c5:8 < s.members.length
           . rw [Q0q,d4.2 c5,X4p] at hE
             rw [if_pos c5,<- hE]; rfl
           . have e4:p4 = false:=by cases p4 with | true=>exact absurd (d4.1 rfl) c5 | false=>rfl
             rw [Q0q,e4,X5k,if_pos rfl] at hE;rw [if_neg c5,<- hE]; rfl
       . rw [Q0q,if_neg c3] at hE
         rw [Y6x c0 c1 c2 c3,<- hE,if_neg c3,Q9q c3]
 . rw [Q0q,if_neg c0] at hE
   rw [<- hE,if_neg c0,Y6t c0,Q6p c0]
theorem Y7l (s:Q0b) (i:Nat) (sh:Bool) (hsh:(!(((Q0d s.members i).length:Int) == (s.ships.length:Int) && (((Q0n s.members i).length:Int) == (s.ships.length:Int) && ((Q0s s.members i).length:Int) == (s.ships.length:Int)))) = sh) {A B:Int}
    (hA:Q0k [Q1f (!nameB (Q1d s.members i)) 8,Q1f (Q3d s.members i) 9,Q0g (Q0h s.members i) 1 1000,Q1f sh 2] = A) (hB:Q0k [Q0r (Q0d s.members i) 9,Q0r (Q0n s.members i) 1024,Q0r (Q0s s.members i) 1024] = B):s.Q2w i = if A = 0 then B else A:=by
 have d:sh = false ↔ ((Q0d s.members i).length = s.ships.length /\ (Q0n s.members i).length = s.ships.length /\ (Q0s s.members i).length = s.ships.length):=by
  rw [<- hsh,Bool.not_eq_false',Bool.and_eq_true,Bool.and_eq_true,beq_iff_eq,beq_iff_eq,beq_iff_eq]; omega
 clear hsh;cases hn:nameB (Q1d s.members i) with
 | false =>
   rw [hn,Bool.not_false,X4p,Q0q] at hA;rw [X8y hn,<- hA]; rfl
 | true =>
   rw [hn,Bool.not_true,X5k,Q0q,if_pos rfl] at hA;cases ht:Q3d s.members i with
   | true =>
     rw [ht,X4p,Q0q] at hA;rw [X6s hn ht,<- hA]; rfl
   | false =>
     rw [ht,X5k,Q0q,if_pos rfl] at hA
     by_cases hw:Q0g (Q0h s.members i) 1 1000 = 0
     . rw [Q0q,if_pos hw] at hA
       cases sh with
       | true =>
         rw [X5t hn ht hw (fun h=>by have:=d.2 h; cases this),<- hA]; rfl
       | false =>
         rw [X9y hn ht hw (d.1 rfl),<- hA,hB]; rfl
     . rw [Q0q,if_neg hw] at hA
       rw [<- hA,if_neg hw,X2f hn ht hw,Q6p hw]
theorem Q4b (w:World) (v:Value) (s:Q0b) (hv:Q0p w v s) (hs:Q2x s) :
    Calls Tryz.prog 51 #[v] w fun e w'=>e = .returned (.int .i64 s.err) /\ Ext w w':=by
 obtain ⟨a,b,rfl,h2⟩:=hv;obtain ⟨A,capa,rfl,hla,-,-⟩:=h2.ships.opened;obtain ⟨B,capb,rfl,hlb,hcapb,-⟩:=h2.members.opened;have H2:=Lib.hid h2;have HSS:=Lib.hid hs;have h7:=hs.ships;have h9:=hs.members;obtain ⟨p1,hp1⟩:∃ x,((s.ships.length:Int) == 0) = x:=⟨_,rfl⟩;obtain ⟨p2,hp2⟩:∃ x,decide (6 < (s.ships.length:Int)) = x:=⟨_,rfl⟩;obtain ⟨p3,hp3⟩:∃ x,((s.members.length:Int) == 0) = x:=⟨_,rfl⟩;obtain ⟨p4,hp4⟩:∃ x,decide (8 < (s.members.length:Int)) = x:=⟨_,rfl⟩;obtain ⟨E,hE⟩:∃ E,Q0k [Q0g s.limit 0 1024,Q1f p1 12,Q1f p2 5,Q0r s.ships 1000,Q1f p3 12,Q1f p4 5] = E:=⟨_,rfl⟩;have HE:Hid (∀ (w':World) (u:Value),Q0e w' u [Q0g s.limit 0 1024,Q1f p1 12,Q1f p2 5,Q0r s.ships 1000,Q1f p3 12,Q1f p4 5] -> Calls Tryz.prog 45 #[u] w' fun e w''=>e = .returned (.int .i64 E) /\ w' = w''):=Lib.hid (by intro w' u h; rw [<- hE]; exact first_any _ _ _ h)
 have HEH:=Lib.hid (J2z s p1 p2 p3 p4 hp1 hp2 hp3 hp4 hE);clear h2 hE hs;go_enter Tryz.func51,Tryz.ntmps51;go_wp2_with fail;change Code.wp _ _ _ _ (w.alloc (.cells #[.int .i64 s.limit,.slice A s.ships.length capa,.slice B s.members.length capb] 74));obtain ⟨W,hWW,k0,HXW,eW⟩:=Q2y w 74 #[.int .i64 s.limit,.slice A s.ships.length capa,.slice B s.members.length capb];rw [hWW];clear hWW;have K0:=Lib.hid k0;have c0_1:=k0.cell 1;simp only [Go.Tw.gA,Go.Tw.gB,Go.Tw.gC] at c0_1;have hdr:=(Ext.refl W).drew;clear k0;go_wp2;refine Flow.Q1q [.p,.w,.w,.p,.p,.w,.p,.p,.w,.p,.w,.w,.w,.p,.w,.p,.p,.w,.p,.w,.p,.p,.w,.w,.w,.p] [0,1,2,3,4,5,6,7,8,9,10,11,12,13,14,15,16,17,18,19,20,21,22,23,24,25] [[],[0],[1],[],[3],[2,4],[],[6],[5,7],[],[9],[8,10],[11],[],[13],[14],[15],[12,16],[],[18],[19],[20],[17,21],[2,5,8,12,17,22],[22,23],[0,1,2,3,4,5,6,7,8,9,10,11,12,13,14,15,16,17,18,19,20,21,22,23,24]]
  [.c 0 (.pointer (some ⟨w.heap.size,0,none⟩)),.c 1 (.int .i64 s.limit),.c 2 (.int .i64 (Q0g s.limit 0 1024)),.c 3 (.int .i64 (s.ships.length:Int)),.c 4 (.bool p1),.c 5 (.int .i64 (Q1f p1 12)),.c 6 (.int .i64 (s.ships.length:Int)),.c 7 (.bool p2),.c 8 (.int .i64 (Q1f p2 5)),.c 9 (.pointer (some ⟨w.heap.size,1,none⟩)),.c 10 (.slice A s.ships.length capa),⟨fun v wz=>(fun v w'=>Q0e w' (v 11) (s.ships.map fun x=>Q0g x 0 1000)) v wz,by intro v a b hx h; exact Q0e.ext h hx⟩,.c 12 (.int .i64 (Q0r s.ships 1000)),.c 13 (.pointer (some ⟨w.heap.size,2,none⟩)),.c 14 (.slice B s.members.length capb),.c 15 (.int .i64 ((s.members.length:Nat):Int)),.c 16 (.bool p3),.c 17 (.int .i64 (Q1f p3 12)),.c 18 (.pointer (some ⟨w.heap.size,2,none⟩)),.c 19 (.slice B s.members.length capb),.c 20 (.int .i64 ((s.members.length:Nat):Int)),.c 21 (.bool p4),.c 22 (.int .i64 (Q1f p4 5)),⟨fun v wz=>Q0e wz (v 23) [Q0g s.limit 0 1024,Q1f p1 12,Q1f p2 5,Q0r s.ships 1000,Q1f p3 12,Q1f p4 5],fun _ _ _ hx h=>h.ext hx⟩,.c 24 (.int .i64 E),.c 25 (.int .i64 E)]
  (by kernel_rfl) rfl (by kernel_rfl) ⟨?g0,?g1,?g2,?g3,?g4,?g5,?g6,?g7,?g8,?g9,?g10,?g11,?g12,?g13,?g14,?g15,?g16,?g17,?g18,?g19,?g20,?g21,?g22,?g23,?g24,?g25,trivial⟩ ?post
 case g0 | g3 | g6 | g9 | g13 | g18=>
  intro v w1 hx;intro bb hbb;subst hbb;refine ⟨_,fun w=>?_,rfl⟩;go_simp
 case g1 | g10 | g14 | g19=>
  intro v w1 hx;(repeat intro (zq:v _ = _));intro bb hbb;subst hbb;have n0:w1.cell? ⟨w.heap.size,0,none⟩ = some (.int .i64 s.limit):=(K0.out.ext (hdr.trans hx)).cell 0;have n1:w1.cell? ⟨w.heap.size,1,none⟩ = some (.slice A s.ships.length capa):=(K0.out.ext (hdr.trans hx)).cell 1;have n2:w1.cell? ⟨w.heap.size,2,none⟩ = some (.slice B s.members.length capb):=(K0.out.ext (hdr.trans hx)).cell 2;intro K hK;go_simp;exact hK _ _ (Ext.refl _) rfl
 case g2=>
  intro v w1 hx;(repeat intro (zq:v _ = _));intro bb hbb;subst hbb;intro K hK;go_simp;refine Q0f (Q9r w1 s.limit) ?_;rintro e w2 ⟨rfl,rfl⟩;exact ⟨_,rfl,hK _ _ (Ext.refl _) rfl⟩
 case g4 | g7 | g15 | g16 | g20 | g21=>
  intro v w1 hx;(repeat intro (zq:v _ = _));intro bb hbb;subst hbb;refine ⟨_,fun w=>?_,rfl⟩;go_simp
 case g5 | g8 | g17 | g22=>
  intro v w1 hx;(repeat intro (zq:v _ = _));intro bb hbb;subst hbb;intro K hK;go_simp;refine Q0f (X3o _ _ _) ?_;rintro e w2 ⟨rfl,rfl⟩;exact ⟨_,rfl,hK _ _ (Ext.refl _) rfl⟩
 case g11=>
  intro v w1 hx;(repeat intro (zq:v _ = _));intro bb hbb;subst hbb;intro K hK;go_simp;refine Q0f (Y0j w1 _ s.ships (H2.out.ships.ext (HXW.out.trans (hdr.trans hx))) (by omega)) ?_
  rintro e w2 ⟨x,rfl,h1,hx2⟩;exact ⟨_,rfl,hK _ _ hx2 h1⟩
 case g12=>
  intro v w1 hx (q11:(fun v w'=>Q0e w' (v 11) (s.ships.map fun x=>Q0g x 0 1000)) v w1);intro bb hbb;subst hbb;intro K hK;go_simp;refine Q0f (first_any w1 _ _ q11) ?_;rintro e w2 ⟨rfl,rfl⟩;exact ⟨_,rfl,hK _ _ (Ext.refl _) rfl⟩
 case g23=>
  intro v w1 hx;(repeat intro (zq:v _ = _));intro bb hbb;subst hbb;intro K hK;go_simp;exact hK _ _ (Ext.box _ _) (Q2l (l:=[Q0g s.limit 0 1024,Q1f p1 12,Q1f p2 5,Q0r s.ships 1000,Q1f p3 12,Q1f p4 5]) (by simp))
 case g24=>
  intro v w1 hx (q22:v 22 = _) (q23:Q0e w1 (v 23) [Q0g s.limit 0 1024,Q1f p1 12,Q1f p2 5,Q0r s.ships 1000,Q1f p3 12,Q1f p4 5]);intro bb hbb;subst hbb;intro K hK;go_simp;refine Q0f (HE.out _ _ q23) ?_;rintro e w2 ⟨rfl,rfl⟩;exact ⟨_,rfl,hK _ _ (Ext.refl _) rfl⟩
 case g25=>
  intro v w1 hx (q0:v 0 = _) (q1:v 1 = _) (q2:v 2 = _) (q3:v 3 = _) (q4:v 4 = _) (q5:v 5 = _) (q6:v 6 = _) (q7:v 7 = _) (q8:v 8 = _) (q9:v 9 = _) (q10:v 10 = _) _ (q12:v 12 = _) (q13:v 13 = _) (q14:v 14 = _) (q15:v 15 = _) (q16:v 16 = _) (q17:v 17 = _) (q18:v 18 = _) (q19:v 19 = _) (q20:v 20 = _) (q21:v 21 = _) (q22:v 22 = _) _ (q24:v 24 = _);intro bb hbb;subst hbb;refine ⟨_,fun w=>?_,rfl⟩;go_simp
 case post =>
  intro v w1 hx (q0:v 0 = _) (q1:v 1 = _) (q2:v 2 = _) (q3:v 3 = _) (q4:v 4 = _) (q5:v 5 = _) (q6:v 6 = _) (q7:v 7 = _) (q8:v 8 = _) (q9:v 9 = _) (q10:v 10 = _) (q11:(fun v w'=>Q0e w' (v 11) (s.ships.map fun x=>Q0g x 0 1000)) v w1) (q12:v 12 = _) (q13:v 13 = _) (q14:v 14 = _) (q15:v 15 = _) (q16:v 16 = _) (q17:v 17 = _) (q18:v 18 = _) (q19:v 19 = _);(iterate 3 intro (zq:v _ = _));intro (q23:Q0e w1 (v 23) [Q0g s.limit 0 1024,Q1f p1 12,Q1f p2 5,Q0r s.ships 1000,Q1f p3 12,Q1f p4 5]);(iterate 1 intro (zq:v _ = _));intro (q25:v 25 = _);simp only [Flow.All,Flow.acts,Act.put];go_simp;have HX1:=Lib.hid (HXW.out.trans (hdr.trans hx));have HK1:=Lib.hid (K0.out.ext (hdr.trans hx));clear hx hdr c0_1 HE hp1 hp2 hp3 hp4
  by_cases hE0:E = 0
  . have hne:(E != 0) = false:=by simp [hE0]
    have HER:Hid (s.err = Q3t s.Q2w s.members.length 0):=Lib.hid (by rw [HEH.out,if_pos hE0])
    have c0_2:=HK1.out.cell 2;simp only [Go.Tw.gA,Go.Tw.gB,Go.Tw.gC] at c0_2;clear hE0 HEH;clear q0 q1 q2 q3 q4 q5 q6 q7 q8 q9 q10 q11 q12 q13 q14 q15 q16 q17 q18 q19 q23;(repeat clear zq);obtain ⟨V,rfl⟩:∃ X,X = w1:=⟨_,rfl⟩;go_wp2;clear c0_2
    go_loopw [45] (fun i wr=>∃ (k:Nat),k <= s.members.length /\ i = .int .i64 k /\ Q3t s.Q2w s.members.length k = s.err /\ Ext V wr) (fun i _=>s.members.length - (intOf i).toNat)
    case atStart=>exact ⟨0,Nat.zero_le _,rfl,HER.out.symm,Ext.refl _⟩
    case round =>
     obtain ⟨k,hk,rfl,hr,hxr⟩:=hrel;have HR:=Lib.hid hr;have HXR:=Lib.hid hxr;have HKR:=Lib.hid (HK1.out.ext hxr);clear hr HER
     by_cases hlt:k < s.members.length
     . have H3:=H2.out.ext (HX1.out.trans hxr)
       obtain ⟨_,_,hB,_,_,hc⟩:=H3.members.opened;cases hB;have HMC:Hid (∀ w',Ext wr w' -> ∀ j,j < k -> ∃ b off c1 c2 c3 c4,B = some ⟨b,off,none⟩ /\ w'.cell? ⟨b,off + j * 5,none⟩ = some (.string (Q1d s.members j)) /\ w'.cell? ⟨b,off + j * 5 + 1,none⟩ = some c1 /\ w'.cell? ⟨b,off + j * 5 + 2,none⟩ = some c2 /\ w'.cell? ⟨b,off + j * 5 + 3,none⟩ = some c3 /\ w'.cell? ⟨b,off + j * 5 + 4,none⟩ = some c4):=Lib.hid (fun w' hx j hj=>by
        obtain ⟨b',off',x',y',z',hA,_,f0,f1,f2,f3,f4,_⟩:=hc j (by omega)
        exact ⟨b',off',_,_,_,_,hA,hx.cell f0,hx.cell f1,hx.cell f2,hx.cell f3,hx.cell f4⟩)
       obtain ⟨bm,off,x,y,z,rfl,hbm,e0,e1,e2,e3,e4,hx,hy,hz,hsh⟩:=hc k hlt;obtain ⟨X,capx,rfl,hlx,-,-⟩:=hx.opened;obtain ⟨Y,capy,rfl,hly,-,-⟩:=hy.opened;obtain ⟨Z,capz,rfl,hlz,-,-⟩:=hz.opened;have hs8:=HSS.out.each k hlt;unfold Q9o at hs8;have hstep:=X4n (f:=s.Q2w) hlt;rw [HR.out] at hstep;obtain ⟨sh,hshv⟩:∃ x,(!(((Q0d s.members k).length:Int) == (s.ships.length:Int) && (((Q0n s.members k).length:Int) == (s.ships.length:Int) && ((Q0s s.members k).length:Int) == (s.ships.length:Int)))) = x:=⟨_,rfl⟩;obtain ⟨EA,hEA⟩:∃ E,Q0k [Q1f (!nameB (Q1d s.members k)) 8,Q1f (Q3d s.members k) 9,Q0g (Q0h s.members k) 1 1000,Q1f sh 2] = E:=⟨_,rfl⟩;obtain ⟨EB,hEB⟩:∃ E,Q0k [Q0r (Q0d s.members k) 9,Q0r (Q0n s.members k) 1024,Q0r (Q0s s.members k) 1024] = E:=⟨_,rfl⟩;have hparts:=Y7l s k sh hshv hEA hEB;have htw:((List.range k).any fun j=>Q1d s.members j == Q1d s.members k) = Q3d s.members k:=rfl;obtain ⟨tw,htwv⟩:∃ x,Q3d s.members k = x:=⟨_,rfl⟩;rw [htwv] at htw hEA;have HX0:=Lib.hid hx;have HY0:=Lib.hid hy;have HZ0:=Lib.hid hz;have HSH:=Lib.hid hsh;obtain ⟨nm,hnm⟩:∃ x,Q1d s.members k = x:=⟨_,rfl⟩;obtain ⟨wt,hwt⟩:∃ x,Q0h s.members k = x:=⟨_,rfl⟩;obtain ⟨lc,hlc⟩:∃ x,Q0d s.members k = x:=⟨_,rfl⟩;obtain ⟨lo,hlo⟩:∃ x,Q0n s.members k = x:=⟨_,rfl⟩;obtain ⟨li,hli⟩:∃ x,Q0s s.members k = x:=⟨_,rfl⟩;rw [hnm] at e0 HSH htw hEA hs8;rw [hwt] at e1 hEA;rw [hlc] at e2 HX0 hshv hEB hs8 hlx;rw [hlo] at e3 HY0 hshv hEB hs8 hly;rw [hli] at e4 HZ0 hshv hEB hs8 hlz;obtain ⟨nb,hnb⟩:∃ x,nameB nm = x:=⟨_,rfl⟩;rw [hnb] at hEA;have HNB:Hid (∀ w',Calls Tryz.prog 105 #[.string nm] w' fun e w''=>e = .returned (.bool nb) /\ Ext w' w''):=Lib.hid (fun w'=>by rw [<- hnb]; exact Y3n w' nm HSH.out)
       have HA:Hid (∀ (w':World) (u:Value),Q0e w' u [Q1f (!nb) 8,Q1f tw 9,Q0g wt 1 1000,Q1f sh 2] -> Calls Tryz.prog 45 #[u] w' fun e w''=>e = .returned (.int .i64 EA) /\ w' = w''):=Lib.hid (by intro w' u h; rw [<- hEA]; exact first_any _ _ _ h)
       have HB:Hid (∀ (w':World) (u:Value),Q0e w' u [Q0r lc 9,Q0r lo 1024,Q0r li 1024] -> Calls Tryz.prog 45 #[u] w' fun e w''=>e = .returned (.int .i64 EB) /\ w' = w''):=Lib.hid (by intro w' u h; rw [<- hEB]; exact first_any _ _ _ h)
       have HSHV:=Lib.hid hshv;have HTW:Hid (∀ (w':World) (g cap:Nat),Ext wr w' -> w'.cell? ⟨g,0,none⟩ = some (.string nm) -> Calls Tryz.prog 103 #[.slice (some ⟨bm,off,none⟩) k cap,.func (.func 104) #[] #[.pointer (some ⟨g,0,none⟩)]] w' fun e w''=>e = .returned (.bool tw) /\ Ext w' w''):=Lib.hid (fun w' g cap hx hB=>by
        have:=Z7p w' s.members k (some ⟨bm,off,none⟩) cap g nm hB (by omega) (HMC.out w' hx)
        rwa [htw] at this)
       obtain ⟨hs60,hsc,hso,hsi⟩:=hs8;have HPARTS:=Lib.hid hparts;have HSTEP:=Lib.hid hstep;have c0_2:=HKR.out.cell 2;simp only [Go.Tw.gA,Go.Tw.gB,Go.Tw.gC] at c0_2;have hkI:(k:Int) < s.members.length:=by omega
       clear hc H3 HMC hx hy hz hsh hstep hparts hnm hwt hlc hlo hli hnb htw htwv hEA hEB hshv hlx hly hlz hbm hs60 HSH;have hbox:=Ext.box wr (.cells #[.string nm,.int .i64 wt,.slice X lc.length capx,.slice Y lo.length capy,.slice Z li.length capz] 90);have K3:=Blk.made wr 90 #[.string nm,.int .i64 wt,.slice X lc.length capx,.slice Y lo.length capy,.slice Z li.length capz];replace c0_2:=hbox.cell c0_2;have d0:=K3.cell 0;have d2:=K3.cell 2;have d3:=K3.cell 3;have d4:=K3.cell 4;simp only [Go.Tw.gA,Go.Tw.gB,Go.Tw.gC] at d0 d2 d3 d4
       go_light
       go_wp2_with (go_at_call 103; refine (HTW.out _ _ _ hbox d0).mono ?_; rintro e w4 ⟨rfl,hx4⟩; replace d2:=hx4.cell d2; replace d3:=hx4.cell d3; replace d4:=hx4.cell d4);obtain ⟨W,hWW,k0,HXW,eW⟩:=Q2y w4 203 #[.int .i64 (lc.length:Int),.int .i64 (lo.length:Int),.int .i64 (li.length:Int)];rw [hWW];clear hWW;have KB:=Lib.hid ((K3.ext hx4).ext HXW.out);have KA:=Lib.hid k0;have HXX:=Lib.hid ((HX1.out.trans hxr).trans ((hbox.trans hx4).trans HXW.out));have HWR:=Lib.hid ((hbox.trans hx4).trans HXW.out);have HXV:=Lib.hid (hxr.trans ((hbox.trans hx4).trans HXW.out));have hdr:=(Ext.refl W).drew;clear k0 K3 d0 d2 d3 d4 c0_2 hx4 hxr hbox e0 e1 e2 e3 e4 HTW;refine Flow.Q1q [.p,.w,.w,.p,.w,.p,.w,.p,.w,.w,.w,.p,.p,.p,.p,.p,.w,.w,.w,.p] [0,1,2,3,4,5,6,7,8,9,10,11,12,13,14,15,16,17,18,19] [[],[0],[1],[2],[2,3],[],[4,5],[],[7],[6,8],[],[],[],[],[11,12,13],[10,14],[9,15],[4,6,9,16],[16,17],[0,1,2,3,4,5,6,7,8,9,10,11,12,13,14,15,16,17,18]]
        [.c 0 (.pointer (some ⟨wr.heap.size,0,none⟩)),.c 1 (.string nm),.c 2 (.bool nb),.c 3 (.bool (!nb)),.c 4 (.int .i64 (Q1f (!nb) 8)),.c 5 (.bool tw),.c 6 (.int .i64 (Q1f tw 9)),.c 7 (.pointer (some ⟨wr.heap.size,1,none⟩)),.c 8 (.int .i64 wt),.c 9 (.int .i64 (Q0g wt 1 1000)),.c 10 (.agg (a3 lc.length lo.length li.length)),.c 11 (.int .i64 (s.ships.length:Int)),.c 12 (.int .i64 (s.ships.length:Int)),.c 13 (.int .i64 (s.ships.length:Int)),.c 14 (.agg #[.int .i64 (s.ships.length:Int),.int .i64 (s.ships.length:Int),.int .i64 (s.ships.length:Int)]),.c 15 (.bool sh),.c 16 (.int .i64 (Q1f sh 2)),⟨fun v wz=>Q0e wz (v 17) [Q1f (!nb) 8,Q1f tw 9,Q0g wt 1 1000,Q1f sh 2],fun _ _ _ hx h=>h.ext hx⟩,.c 18 (.int .i64 EA),.c 19 (.int .i64 EA)]
        (by kernel_rfl) rfl (by kernel_rfl) ⟨?g0,?g1,?g2,?g3,?g4,?g5,?g6,?g7,?g8,?g9,?g10,?g11,?g12,?g13,?g14,?g15,?g16,?g17,?g18,?g19,trivial⟩ ?post
       case g0 | g5 | g7 | g11 | g12 | g13=>
        intro v w1 hx;intro bb hbb;subst hbb;refine ⟨_,fun w=>?_,rfl⟩;go_simp
       case g1 | g8=>
        intro v w1 hx;(repeat intro (zq:v _ = _));intro bb hbb;subst hbb;have n0:w1.cell? ⟨wr.heap.size,0,none⟩ = some (.string nm):=(KB.out.ext (hdr.trans hx)).cell 0;have n1:w1.cell? ⟨wr.heap.size,1,none⟩ = some (.int .i64 wt):=(KB.out.ext (hdr.trans hx)).cell 1;intro K hK;go_simp;exact hK _ _ (Ext.refl _) rfl
       case g2=>
        intro v w1 hx;(repeat intro (zq:v _ = _));intro bb hbb;subst hbb;intro K hK;go_simp;refine Q0f (HNB.out w1) ?_;rintro e w2 ⟨rfl,hx2⟩;exact ⟨_,rfl,hK _ _ hx2 rfl⟩
       case g3 | g14=>
        intro v w1 hx;(repeat intro (zq:v _ = _));intro bb hbb;subst hbb;refine ⟨_,fun w=>?_,rfl⟩;go_simp
       case g4 | g6 | g16=>
        intro v w1 hx;(repeat intro (zq:v _ = _));intro bb hbb;subst hbb;intro K hK;go_simp;refine Q0f (X3o _ _ _) ?_;rintro e w2 ⟨rfl,rfl⟩;exact ⟨_,rfl,hK _ _ (Ext.refl _) rfl⟩
       case g9=>
        intro v w1 hx;(repeat intro (zq:v _ = _));intro bb hbb;subst hbb;intro K hK;go_simp;refine Q0f (Q7x w1 wt 1 1000) ?_;rintro e w2 ⟨rfl,rfl⟩;exact ⟨_,rfl,hK _ _ (Ext.refl _) rfl⟩
       case g10=>
        intro v w1 hx;intro bb hbb;intro K hK;have o1:bb.eval (.tmp 8) = .pointer (some ⟨w4.heap.size,0,none⟩):=by rw [hbb]; dsimp only; (try simp (discharger:=decide) only [eval_put_ne]); rfl
        exact Q0x (.tmp 8) _ rfl Tryz.J9l Tryz.J7z o1 (KA.out.ext (hdr.trans hx)) rfl (hK _ _ (Ext.refl _) rfl)
       case g15=>
        intro v w1 hx;(repeat intro (zq:v _ = _));intro bb hbb;have o1:bb.eval (.tmp 76) = .agg (a3 lc.length lo.length li.length):=by rw [hbb]; dsimp only; (try simp (discharger:=decide) only [eval_put_ne]); rw [Q0a (by simp only [size_put]; exact (by decide:76 < 106))]; assumption
        have o2:bb.eval (.tmp 80) = .agg (a3 s.ships.length s.ships.length s.ships.length):=by rw [hbb]; dsimp only; (try simp (discharger:=decide) only [eval_put_ne]); rw [Q0a (by simp only [size_put]; exact (by decide:80 < 106))]; assumption
        exact ⟨.bool sh,fun w=>(Y6z (.tmp 76) (.tmp 80) rfl o1 o2).trans (by rw [HSHV.out]),rfl⟩
       case g17=>
        intro v w1 hx;(repeat intro (zq:v _ = _));intro bb hbb;subst hbb;intro K hK;go_simp;exact hK _ _ (Ext.box _ _) (Q2l (l:=[Q1f (!nb) 8,Q1f tw 9,Q0g wt 1 1000,Q1f sh 2]) (by simp))
       case g18=>
        intro v w1 hx (q16:v 16 = _) (q17:Q0e w1 (v 17) [Q1f (!nb) 8,Q1f tw 9,Q0g wt 1 1000,Q1f sh 2]);intro bb hbb;subst hbb;intro K hK;go_simp;refine Q0f (HA.out _ _ q17) ?_;rintro e w2 ⟨rfl,rfl⟩;exact ⟨_,rfl,hK _ _ (Ext.refl _) rfl⟩
       case g19=>
        intro v w1 hx (q0:v 0 = _) (q1:v 1 = _) (q2:v 2 = _) (q3:v 3 = _) (q4:v 4 = _) (q5:v 5 = _) (q6:v 6 = _) (q7:v 7 = _) (q8:v 8 = _) (q9:v 9 = _) (q10:v 10 = _) (q11:v 11 = _) (q12:v 12 = _) (q13:v 13 = _) (q14:v 14 = _) (q15:v 15 = _) (q16:v 16 = _) _ (q18:v 18 = _);intro bb hbb;subst hbb;refine ⟨_,fun w=>?_,rfl⟩;go_simp
       case post =>
        intro v w1 hx (q0:v 0 = _) (q1:v 1 = _) (q2:v 2 = _) (q3:v 3 = _) (q4:v 4 = _) (q5:v 5 = _) (q6:v 6 = _) (q7:v 7 = _) (q8:v 8 = _) (q9:v 9 = _) (q10:v 10 = _) (q11:v 11 = _) (q12:v 12 = _) (q13:v 13 = _) (q14:v 14 = _);(iterate 2 intro (zq:v _ = _));intro (q17:Q0e w1 (v 17) [Q1f (!nb) 8,Q1f tw 9,Q0g wt 1 1000,Q1f sh 2]);(iterate 1 intro (zq:v _ = _));intro (q19:v 19 = _);simp only [Flow.All,Flow.acts,Act.put];go_simp;have HX2:=Lib.hid (hdr.trans hx);clear hx hdr q0 q1 q2 q3 q4 q5 q6 q7 q8 q9 q10 q11 q12 q13 q14 q17 HA HNB HSHV KA;(repeat clear zq)
        by_cases ha:EA = 0
        . have hna:(EA != 0) = false:=by simp [ha]
          have HPB:Hid (s.Q2w k = EB):=Lib.hid (by rw [HPARTS.out,if_pos ha])
          have HK9:=Lib.hid (KB.out.ext HX2.out);have HX9:=Lib.hid (HXX.out.trans HX2.out);have HV9:=Lib.hid (HXV.out.trans HX2.out);have HWR9:=Lib.hid (HWR.out.trans HX2.out);have hdr:=(Ext.refl w1).drew;clear ha HPARTS KB HXX HX2 HXV;obtain ⟨U,rfl⟩:∃ X,X = w1:=⟨_,rfl⟩;go_wp2;refine Flow.Q1q [.p,.w,.w,.w,.p,.w,.w,.w,.p,.w,.w,.w,.w,.w,.p] [0,1,2,3,4,5,6,7,8,9,10,11,12,13,14] [[],[0],[1],[2],[],[4],[3,5],[6],[],[8],[7,9],[10],[3,7,11],[11,12],[0,1,2,3,4,5,6,7,8,9,10,11,12,13]]
           [.c 0 (.pointer (some ⟨wr.heap.size,2,none⟩)),.c 1 (.slice X lc.length capx),⟨fun v wz=>(fun v w'=>Q0e w' (v 2) (lc.map fun x=>Q0g x 0 9)) v wz,by intro v a b hx h; exact Q0e.ext h hx⟩,.c 3 (.int .i64 (Q0r lc 9)),.c 4 (.pointer (some ⟨wr.heap.size,3,none⟩)),.c 5 (.slice Y lo.length capy),⟨fun v wz=>(fun v w'=>Q0e w' (v 6) (lo.map fun x=>Q0g x 0 1024)) v wz,by intro v a b hx h; exact Q0e.ext h hx⟩,.c 7 (.int .i64 (Q0r lo 1024)),.c 8 (.pointer (some ⟨wr.heap.size,4,none⟩)),.c 9 (.slice Z li.length capz),⟨fun v wz=>(fun v w'=>Q0e w' (v 10) (li.map fun x=>Q0g x 0 1024)) v wz,by intro v a b hx h; exact Q0e.ext h hx⟩,.c 11 (.int .i64 (Q0r li 1024)),⟨fun v wz=>Q0e wz (v 12) [Q0r lc 9,Q0r lo 1024,Q0r li 1024],fun _ _ _ hx h=>h.ext hx⟩,.c 13 (.int .i64 EB),.c 14 (.int .i64 EB)]
           (by kernel_rfl) rfl (by kernel_rfl) ⟨?g0,?g1,?g2,?g3,?g4,?g5,?g6,?g7,?g8,?g9,?g10,?g11,?g12,?g13,?g14,trivial⟩ ?post
          case g0 | g4 | g8=>
           intro v w1 hx;intro bb hbb;subst hbb;refine ⟨_,fun w=>?_,rfl⟩;go_simp
          case g1 | g5 | g9=>
           intro v w1 hx;(repeat intro (zq:v _ = _));intro bb hbb;subst hbb;have n0:w1.cell? ⟨wr.heap.size,2,none⟩ = some (.slice X lc.length capx):=(HK9.out.ext (hdr.trans hx)).cell 2;have n1:w1.cell? ⟨wr.heap.size,3,none⟩ = some (.slice Y lo.length capy):=(HK9.out.ext (hdr.trans hx)).cell 3;have n2:w1.cell? ⟨wr.heap.size,4,none⟩ = some (.slice Z li.length capz):=(HK9.out.ext (hdr.trans hx)).cell 4;intro K hK;go_simp;exact hK _ _ (Ext.refl _) rfl
          case g2=>
           intro v w1 hx;(repeat intro (zq:v _ = _));intro bb hbb;subst hbb;intro K hK;go_simp;refine Q0f (Y0o w1 _ lc (HX0.out.ext (HWR9.out.trans (hdr.trans hx))) (by omega)) ?_
           rintro e w2 ⟨x,rfl,h1,hx2⟩;exact ⟨_,rfl,hK _ _ hx2 h1⟩
          case g3=>
           intro v w1 hx (q2:(fun v w'=>Q0e w' (v 2) (lc.map fun x=>Q0g x 0 9)) v w1);intro bb hbb;subst hbb;intro K hK;go_simp;refine Q0f (first_any w1 _ _ q2) ?_;rintro e w2 ⟨rfl,rfl⟩;exact ⟨_,rfl,hK _ _ (Ext.refl _) rfl⟩
          case g6=>
           intro v w1 hx;(repeat intro (zq:v _ = _));intro bb hbb;subst hbb;intro K hK;go_simp;refine Q0f (Q9e w1 _ lo (HY0.out.ext (HWR9.out.trans (hdr.trans hx))) (by omega)) ?_
           rintro e w2 ⟨x,rfl,h1,hx2⟩;exact ⟨_,rfl,hK _ _ hx2 h1⟩
          case g7=>
           intro v w1 hx (q6:(fun v w'=>Q0e w' (v 6) (lo.map fun x=>Q0g x 0 1024)) v w1);intro bb hbb;subst hbb;intro K hK;go_simp;refine Q0f (first_any w1 _ _ q6) ?_;rintro e w2 ⟨rfl,rfl⟩;exact ⟨_,rfl,hK _ _ (Ext.refl _) rfl⟩
          case g10=>
           intro v w1 hx;(repeat intro (zq:v _ = _));intro bb hbb;subst hbb;intro K hK;go_simp;refine Q0f (Q9e w1 _ li (HZ0.out.ext (HWR9.out.trans (hdr.trans hx))) (by omega)) ?_
           rintro e w2 ⟨x,rfl,h1,hx2⟩;exact ⟨_,rfl,hK _ _ hx2 h1⟩
          case g11=>
           intro v w1 hx (q10:(fun v w'=>Q0e w' (v 10) (li.map fun x=>Q0g x 0 1024)) v w1);intro bb hbb;subst hbb;intro K hK;go_simp;refine Q0f (first_any w1 _ _ q10) ?_;rintro e w2 ⟨rfl,rfl⟩;exact ⟨_,rfl,hK _ _ (Ext.refl _) rfl⟩
          case g12=>
           intro v w1 hx;(repeat intro (zq:v _ = _));intro bb hbb;subst hbb;intro K hK;go_simp;exact hK _ _ (Ext.box _ _) (Q2l (l:=[Q0r lc 9,Q0r lo 1024,Q0r li 1024]) (by simp))
          case g13=>
           intro v w1 hx (q11:v 11 = _) (q12:Q0e w1 (v 12) [Q0r lc 9,Q0r lo 1024,Q0r li 1024]);intro bb hbb;subst hbb;intro K hK;go_simp;refine Q0f (HB.out _ _ q12) ?_;rintro e w2 ⟨rfl,rfl⟩;exact ⟨_,rfl,hK _ _ (Ext.refl _) rfl⟩
          case g14=>
           intro v w1 hx (q0:v 0 = _) (q1:v 1 = _) _ (q3:v 3 = _) (q4:v 4 = _) (q5:v 5 = _) _ (q7:v 7 = _) (q8:v 8 = _) (q9:v 9 = _) _ (q11:v 11 = _) _ (q13:v 13 = _);intro bb hbb;subst hbb;refine ⟨_,fun w=>?_,rfl⟩;go_simp
          case post =>
           intro v w1 hx;(iterate 2 intro (zq:v _ = _));intro (q2:(fun v w'=>Q0e w' (v 2) (lc.map fun x=>Q0g x 0 9)) v w1);(iterate 3 intro (zq:v _ = _));intro (q6:(fun v w'=>Q0e w' (v 6) (lo.map fun x=>Q0g x 0 1024)) v w1);(iterate 3 intro (zq:v _ = _));intro (q10:(fun v w'=>Q0e w' (v 10) (li.map fun x=>Q0g x 0 1024)) v w1);(iterate 1 intro (zq:v _ = _));intro (q12:Q0e w1 (v 12) [Q0r lc 9,Q0r lo 1024,Q0r li 1024]);(iterate 1 intro (zq:v _ = _));intro (q14:v 14 = _);simp only [Flow.All,Flow.acts,Act.put];go_simp;have HX2:=Lib.hid (hdr.trans hx);clear hx hdr q2 q6 q10 q12;(repeat clear zq)
           by_cases hb:EB = 0
           . have hnb:(EB != 0) = false:=by simp [hb]
             have HST:Hid (Q3t s.Q2w s.members.length (k + 1) = s.err):=Lib.hid (by rw [HSTEP.out,HPB.out,if_pos hb])
             clear hb;go_wp2;go_roundw
             case rel=>exact ⟨k + 1,by omega,by go_num,HST.out,HV9.out.trans HX2.out⟩
             case measure=>simp [intOf]; omega
           . have hnb:(EB != 0) = true:=by simp [hb]
             have HST:Hid (s.err = EB):=Lib.hid (by rw [HSTEP.out,HPB.out,if_neg hb])
             clear hb;go_wp2;go_ret;exact ⟨Q1c HST.out.symm,HX9.out.trans HX2.out⟩
        . have hna:(EA != 0) = true:=by simp [ha]
          have HST:Hid (s.err = EA):=Lib.hid (by rw [HSTEP.out,HPARTS.out,if_neg ha,if_neg ha])
          clear ha;go_wp2;go_ret;exact ⟨Q1c HST.out.symm,HXX.out.trans HX2.out⟩
     . go_wp2
       go_ret;exact ⟨Q1c (by rw [<- HR.out,X6r (by omega)]),HX1.out.trans hxr⟩
  . have hne:(E != 0) = true:=by simp [hE0]
    have HER:Hid (s.err = E):=Lib.hid (by rw [HEH.out,if_neg hE0])
    clear hE0 HEH;go_wp2;go_ret;exact ⟨Q1c HER.out.symm,HX1.out⟩
end Go.Proofs
namespace Go.Proofs
open Go.RowKit Go.Tw Go.Flow
def Y9r (w:World) (g off:Nat) (sub:Array Value):Prop:=∀ k (hk:k < sub.size),w.cell? ⟨g,off + k,none⟩ = some sub[k]
theorem Y9r.ext {w w':World} {g off:Nat} {sub:Array Value} (h:Y9r w g off sub) (hx:Ext w w'):Y9r w' g off sub:=fun k hk=>hx.cell (h k hk)
theorem Y4s {P:Program} {w:World} {g off:Nat} {cs:Array Value} (h:Y9r w g off cs):(loadCells ⟨g,off,none⟩ cs.size).run P w = .ok cs w:=by
 have gen:∀ (n i:Nat) (acc:Array Value),i + n = cs.size -> acc.toList = cs.toList.take i -> (loadCellsFrom ⟨g,off,none⟩ i n acc).run P w = .ok cs w:=by
  intro n
  induction n with
  | zero =>
    intro i acc hi ha;have:acc = cs:=by
     apply Array.toList_inj.1
     rw [ha,List.take_of_length_le (by simp; omega)]
    subst this;simp [loadCellsFrom]
  | succ n ih =>
    intro i acc hi ha;have hlt:i < cs.size:=by omega
    have h0:=h i hlt;have ea:(⟨g,off,none⟩:Addr).add i = ⟨g,off + i,none⟩:=by rw [addr_add]
    rw [loadCellsFrom,ea];simp only [Sem.run_bind,load,Sem.run,h0,Result.andThen_ok];refine ih (i + 1) _ (by omega) ?_
    rw [Array.toList_push,ha,<- Array.getElem_toList (by simpa using hlt),List.take_append_getElem]
 exact gen cs.size 0 #[] (by omega) (by simp)
theorem X5j {P:Program} {w:World} {g off:Nat} {T:TypeId} {cs:Array Value} (h:Y9r w g off cs) (hA:∀ w,(isAgg T).run P w = .ok true w) (hS:∀ w,(sizeOf T).run P w = .ok cs.size w):(loadVar T ⟨g,off,none⟩).run P w = .ok (.agg cs) w:=by
 unfold loadVar;simp only [Sem.run_bind,hA,Result.andThen_ok,if_true,hS,Y4s h,Sem.run_pure]
theorem X6v {P:Program} {w:World} {o:Oper} {a:Act} {p:Operand} {T:TypeId} {g off:Nat} {cs:Array Value} (hop:o.op = .load T p) (hA:∀ w,(isAgg T).run P w = .ok true w) (hS:∀ w,(sizeOf T).run P w = .ok cs.size w) (hp:a.eval p = .pointer (some ⟨g,off,none⟩)) (h:Y9r w g off cs):(execOp a.eval o).run P w = .ok (.value (.agg cs)) w:=by
 unfold execOp;simp only [hop,hp,Instr.loadAt,Instr.sureAddr,Sem.run_bind,Sem.run_pure,Result.andThen_ok,X5j h hA hS]
theorem Q8a {P:Program} {w:World} {ops:Array Oper} {rest:List Oper} {o:Oper} {a:Act} {Q:Exit -> Act -> World -> Prop} (hg:o.guard = none) (p:Operand) (T:TypeId) (hop:o.op = .load T p)
    (hA:∀ w,(isAgg T).run P w = .ok true w) {n:Nat} (hS:∀ w,(sizeOf T).run P w = .ok n w) {g off:Nat} (hp:a.eval p = .pointer (some ⟨g,off,none⟩)) {cs:Array Value} (hb:Y9r w g off cs) (hn:cs.size = n)
    (hK:wpList P ops Q rest (a.put o.dst (.agg cs)) w):wpList P ops Q (o :: rest) a w:=by
 subst hn;refine wpList_plain hg fun K' hK'=>?_;unfold Oper.wp;rw [X6v hop hA hS hp hb];exact hK' _ _ hK
end Go.Proofs
namespace Go.Tw
open Go.RowKit Go.Flow Go.Ba
structure Y8n (l:Q6r) (n:Nat):Prop where
 kind:Z6i l.kind ≠ none
 src:if Go.Proofs.J5i l.kind then l.src = -1 else 0 <= l.src /\ l.src < n
 dst:if Go.Proofs.J4m l.kind then l.dst = -1 else 0 <= l.dst /\ l.dst < n
 ring:l.src ≠ l.dst
 lev:0 <= l.lev /\ l.lev <= (if Go.Proofs.J5i l.kind && !Go.Proofs.J4m l.kind then 0 else 1024)
 rate:1 <= l.rate /\ l.rate <= 1000
def IsTable (w:World) (v:Value):Prop:=∃ b,v = .map (some b) /\ Q2c w b Go.Proofs.X6p
theorem IsTable.ext {w w':World} {v:Value} (h:IsTable w v) (hx:Ext w w'):IsTable w' v:=let ⟨b,e,m⟩:=h; ⟨b,e,m.ext hx⟩
end Go.Tw
namespace Go.Proofs
open Go.RowKit Go.Tw Go.Flow Go.Ba
attribute [local go_sem] Oper.semAt_some
theorem X3t (w:World) (b:Bool) (x:Int) (h:b = false):Calls Tryz.prog 36 #[.bool b,.int .i64 x] w fun e w'=>e = .returned (.int .i64 0) /\ w = w':=by
 subst h; exact X9t w false x
theorem X0k (w:World) (x a b:Int) (h:a <= x /\ x <= b):Calls Tryz.prog 71 #[.int .i64 x,.int .i64 a,.int .i64 b] w fun e w'=>e = .returned (.int .i64 0) /\ w = w':=by
 have:=Q8l w x a b
 rwa [Q1p.2 h] at this
theorem X1w:∀ {l:List Int},(∀ x ∈ l,x = 0) -> Q0k l = 0
 | [],_=>rfl
 | x :: l,h=>by rw [Q0q,if_pos (h x (by simp))]; exact X1w fun y hy=>h y (by simp [hy])
theorem Q7r (w:World) (v:Value) (l:List Int) (hv:Q0e w v l) (h:∀ x ∈ l,x = 0):Calls Tryz.prog 75 #[v] w fun e w'=>e = .returned (.int .i64 0) /\ w = w':=by
 have:=X5o w v l hv
 rwa [X1w h] at this
theorem Q4w {P:Program} {o:Oper} {a:Act} (x:Operand) (i:Nat) (ho:o.op = .extract x i) {vs:Array Value} {u:Value} (hx:a.eval x = .tuple vs) (hv:vs[i]? = some u) (w:World):(execOp a.eval o).run P w = .ok (.value u) w:=by
 unfold execOp;simp only [ho,hx,Instr.extract,hv,Sem.run_bind,Sem.run_pure,Result.andThen_ok]
theorem Q9d {P:Program} {K:Value -> World -> Prop} {o:Oper} {a:Act} {w:World} (x:Operand) (ho:o.op = .assign x) {u:Value} (hx:a.eval x = u) (h:K u w):gives P K ((execOp a.eval o).run P w):=by
 unfold execOp;simp only [ho,hx,Sem.run_pure];exact h
theorem Q9t {P:Program} {w:World} {ops:Array Oper} {rest:List Oper} {o:Oper} {a:Act} {Q:Exit -> Act -> World -> Prop} (hg:o.guard = none) (x y:Operand) (T T2:TypeId) (hop:o.op = .binOp .eql T x y T2) {xs ys:Array Value} (hx:a.eval x = .agg xs) (hy:a.eval y = .agg ys)
    {r:Bool} (hr:∀ w,(binOp .eql T (.agg xs) (.agg ys)).run P w = .ok (.bool r) w) (hm:P.eqGuardType P.depth T = false) (hK:wpList P ops Q rest (a.put o.dst (.bool r)) w):wpList P ops Q (o :: rest) a w:=by
 refine wpList_plain hg fun K' hK'=>?_;unfold Oper.wp;have hr2:(execOp a.eval o).run P w = .ok (.value (.bool r)) w:=by
  unfold execOp;simp only [hop,hx,hy,Sem.run_bind,run_eqGuard_agg w .eql T x y xs ys hm,Result.andThen_ok,hr,Sem.run_pure]
 rw [hr2];exact hK' _ _ hK
theorem Tryz.Z0e:Tryz.prog.eqGuardType Tryz.prog.depth 270 = false:=by kernel_rfl
theorem Tryz.K0h (A B:Bool) (w:World):(binOp .eql 270 (.agg #[.bool A,.bool B]) (.agg #[.bool true,.bool false])).run Tryz.prog w = .ok (.bool (A && !B)) w:=by
 cases A <;> cases B <;> kernel_rfl
theorem Tryz.J7i (w:World):(Instr.build 270 #[(0,.bool true),(1,.bool false)]).run Tryz.prog w = .ok (.agg #[.bool true,.bool false]) w:=by kernel_rfl
theorem Y9v {w:World} {o:Oper} {A:Act} (hop:o.op = .build 270 #[(0,.const (.bool true)),(1,.const (.bool false))]):(execOp A.eval o).run Tryz.prog w = .ok (.value (.agg #[.bool true,.bool false])) w:=by
 unfold execOp;have e1:A.eval (.const (.bool true)) = .bool true:=rfl;have e2:A.eval (.const (.bool false)) = .bool false:=rfl;simp only [hop,List.map_toArray,List.map_cons,List.map_nil,e1,e2,Sem.run_bind,Tryz.J7i,Result.andThen_ok,Sem.run_pure]
theorem X0j {w:World} {ops:Array Oper} {rest:List Oper} {o:Oper} {a:Act} {Q:Exit -> Act -> World -> Prop} (hg:o.guard = none) (hop:o.op = .build 270 #[(0,.const (.bool true)),(1,.const (.bool false))])
    (hK:wpList Tryz.prog ops Q rest (a.put o.dst (.agg #[.bool true,.bool false])) w):wpList Tryz.prog ops Q (o :: rest) a w:=by
 refine wpList_plain hg fun K' hK'=>?_;unfold Oper.wp;rw [Y9v hop];exact hK' _ _ hK
theorem J1r {w:World} {g:Nat} {T:TypeId} {a b c:Value} (h:Blk w g T #[a,b,c]):Y9r w g 0 #[a,b]:=by
 intro k hk;have hk':k < 2:=hk;rw [Nat.zero_add,h.cell]
 match k,hk' with
 | 0,_=>rfl
 | 1,_=>rfl
theorem Tryz.J7x (w:World):(sizeOf 273).run Tryz.prog w = .ok 3 w:=by kernel_rfl
theorem Y4w (w:World) (l:Q6r) (n:Nat) (h:Y8n l n) :
    Calls Tryz.prog 142 #[lkV l.kind l.src l.dst l.lev l.rate,.int .i64 n] w fun e w'=>e = .returned (.int .i64 0) /\ Ext w w':=by
 obtain ⟨kd,lf,lt,la,lr⟩:=l;obtain ⟨hk,ha,hb,hr,hl,hq⟩:=h;dsimp only at hk ha hb hr hl hq ⊢;obtain ⟨A,hA⟩:∃ z,J5i kd = z:=⟨_,rfl⟩;obtain ⟨B,hB⟩:∃ z,J4m kd = z:=⟨_,rfl⟩;obtain ⟨F,hF⟩:∃ z,X5e kd = z:=⟨_,rfl⟩;have hfd:=Y2s hk;rw [hA,hB,hF] at hfd;rw [hA] at ha hl;rw [hB] at hb hl;have HFD:=Lib.hid hfd;have HA:=Lib.hid ha;have HB:=Lib.hid hb;have HR:=Lib.hid hr;have HL:=Lib.hid hl;have HQ:=Lib.hid hq;clear hk ha hb hr hl hq hfd hA hB hF;go_enter Tryz.func142,Tryz.ntmps142;go_upto_region 1 with fail;obtain ⟨W,hWW,k0,k1,HXW,eW⟩:=Q6u w 106 #[.string kd,.int .i64 lf,.int .i64 lt,.int .i64 la,.int .i64 lr] 3 #[.int .i64 n];rw [hWW];clear hWW;obtain ⟨g,hg⟩:∃ z,w.heap.size = z:=⟨_,rfl⟩;rw [hg] at k0 k1 eW ⊢;have K0:=Lib.hid k0;have K1:=Lib.hid k1;have hdr:=(Ext.refl W).drew;have HGW:Hid (g + 1 < W.heap.size):=Lib.hid k1.lt;clear k0 k1 hg eW;have HR1:True:=trivial;refine Flow.Q4c [.w,.p,.w,.w,.p,.p,.p,.w,.last,.last] [0,1,2,3,4,5,6,7,8,9] [[],[],[1],[0,1,2],[0,1,2,3],[0,1,2,3,4],[0,1,2,3,4],[],[0,1,2,3,4,5,7],[0,1,2,3,4,5,6,7,8]] [8,9]
  [⟨fun v wz=>(fun v w'=>IsTable w' (v 0)) v wz,fun _ _ _ hx h=>IsTable.ext h hx⟩,.c 1 (.pointer (some ⟨g,0,none⟩)),.c 2 (.string kd),.c 3 (.tuple #[kdV A B F,.bool true]),.c 4 (.tuple #[kdV A B F,.bool true]),.c 5 (kdV A B F),.c 6 (.bool true),⟨fun v wz=>(fun v w'=>∃ gk,v 7 = .pointer (some ⟨gk,0,none⟩) /\ W.heap.size <= gk /\ Blk w' gk 273 #[.bool false,.bool false,.nilFunc]) v wz,by rintro v a b hx ⟨g,h1,h2,h3⟩; exact ⟨g,h1,h2,h3.ext hx⟩⟩,.none,.none]
  [fun v w1 w'=>∃ gk,v 7 = .pointer (some ⟨gk,0,none⟩) /\ W.heap.size <= gk /\ Blk w' gk 273 #[.bool A,.bool B,.func (.func F) #[] #[]] /\ Below gk w1 w',fun v w1 w'=>(∃ gk,v 7 = .pointer (some ⟨gk,0,none⟩) /\ W.heap.size <= gk /\ Blk w' gk 273 #[.bool A,.bool B,.func (.func F) #[] #[]] /\ Below gk w1 w') /\ v 9 = .bool true] (by kernel_rfl) rfl (by kernel_rfl) ⟨?g0,?g1,?g2,?g3,?g4,?g5,?g6,?g7,?g8,?g9,trivial⟩ ?post
 case g0=>
  intro v w1 hx;intro bb hbb;subst hbb;intro K hK;go_simp;refine Q0f (table_any w1) ?_;rintro e w2 ⟨b,rfl,hm,hx2⟩;exact ⟨_,rfl,hK _ _ hx2 ⟨b,rfl,hm⟩⟩
 case g1=>
  intro v w1 hx;intro bb hbb;subst hbb;refine ⟨_,fun w=>?_,rfl⟩;go_simp
 case g2=>
  intro v w1 hx;(repeat intro (zq:v _ = _));intro bb hbb;subst hbb;have n0:w1.cell? ⟨g,0,none⟩ = some (.string kd):=(K0.out.ext (hdr.trans hx)).cell 0;intro K hK;go_simp;exact hK _ _ (Ext.refl _) rfl
 case g3=>
  intro v w1 hx (q0:(fun v w'=>IsTable w' (v 0)) v w1) (q1:v 1 = _) (q2:v 2 = _);intro bb hbb;obtain ⟨b,hb,hm⟩:=q0;have o1:bb.eval (.tmp 10) = .map (some b):=by rw [hbb]; dsimp only; (try simp (discharger:=decide) only [eval_put_ne]); rw [Q0a (by simp only [size_put]; exact (by decide:10 < 56))]; exact hb
  have o2:bb.eval (.tmp 12) = .string kd:=by rw [hbb]; dsimp only; (try simp (discharger:=decide) only [eval_put_ne]); rw [Q0a (by simp only [size_put]; exact (by decide:12 < 56))]; exact q2
  have hlk:=Q5n (P:=Tryz.prog) hm X8a Y6e (J4r _) kd true;rw [if_pos rfl,HFD.out] at hlk;clear hbb;intro K hK;unfold execOp;simp only [o1,o2];go_simp;exact hK _ _ (Ext.refl _) rfl
 case g4=>
  intro v w1 hx _ (q1:v 1 = _) (q2:v 2 = _) (q3:v 3 = _);intro bb hbb;subst hbb;refine ⟨_,fun w=>?_,rfl⟩;go_simp
 case g5=>
  intro v w1 hx _ (q1:v 1 = _) (q2:v 2 = _) (q3:v 3 = _) (q4:v 4 = _);intro bb hbb;have o1:bb.eval (.tmp 9) = .tuple #[kdV A B F,.bool true]:=by rw [hbb]; dsimp only; (try simp (discharger:=decide) only [eval_put_ne]); rw [Q0a (by simp only [size_put]; exact (by decide:9 < 56))]; exact q4
  exact ⟨_,fun w=>Q4w _ 0 rfl o1 rfl w,rfl⟩
 case g6=>
  intro v w1 hx _ (q1:v 1 = _) (q2:v 2 = _) (q3:v 3 = _) (q4:v 4 = _);intro bb hbb;subst hbb;refine ⟨_,fun w=>?_,rfl⟩;go_simp
 case g7=>
  intro v w1 hx;intro bb hbb;subst hbb;intro K2 hK2;go_simp;exact hK2 _ _ (Ext.box _ _) ⟨_,rfl,(hdr.trans hx).size,Blk.made _ _ _⟩
 case g8=>
  intro v w1 hx _ (q1:v 1 = _) (q2:v 2 = _) (q3:v 3 = _) (q4:v 4 = _) (q5:v 5 = _) (q7:(fun v w'=>∃ gk,v 7 = .pointer (some ⟨gk,0,none⟩) /\ W.heap.size <= gk /\ Blk w' gk 273 #[.bool false,.bool false,.nilFunc]) v w1);intro wl hT;obtain rfl:wl = w1:=hT;intro bb hbb;intro K2 hK2;obtain ⟨gk,hg,hgl,hgb⟩:=q7;have o1:bb.eval (.tmp 5) = .pointer (some ⟨gk,0,none⟩):=by rw [hbb]; dsimp only; (try simp (discharger:=decide) only [eval_put_ne]); rw [Q0a (by simp only [size_put]; exact (by decide:5 < 56))]; exact hg
  have o2:bb.eval (.tmp 14) = .agg #[.bool A,.bool B,.func (.func F) #[] #[]]:=by rw [hbb]; dsimp only; (try simp (discharger:=decide) only [eval_put_ne]); rw [Q0a (by simp only [size_put]; exact (by decide:14 < 56))]; exact q5
  exact Q1y (.tmp 5) (.tmp 14) _ rfl Tryz.J7x o1 o2 hgb rfl rfl (by simp [Value.oneCell']) (fun vv w9 hb hl ho=>hK2 _ _ ⟨gk,hg,hgl,hb,hl _ (Nat.le_refl _)⟩)
 case g9=>
  intro v w1 hx _ (q1:v 1 = _) (q2:v 2 = _) (q3:v 3 = _) (q4:v 4 = _) (q5:v 5 = _) (q6:v 6 = _) _;intro wl hT;replace hT:(fun v w1 w'=>∃ gk,v 7 = .pointer (some ⟨gk,0,none⟩) /\ W.heap.size <= gk /\ Blk w' gk 273 #[.bool A,.bool B,.func (.func F) #[] #[]] /\ Below gk w1 w') v w1 wl:=hT;intro bb hbb;intro K2 hK2;have o1:bb.eval (.tmp 15) = .bool true:=by rw [hbb]; dsimp only; (try simp (discharger:=decide) only [eval_put_ne,Q0c]); rw [Q0a (by simp only [size_put]; exact (by decide:15 < 56))]; exact q6
  exact Q9d (.tmp 15) rfl o1 (hK2 _ _ ⟨hT,rfl⟩)
 case post =>
  intro v w1 hx (q0:(fun v w'=>IsTable w' (v 0)) v w1) (q1:v 1 = _) (q2:v 2 = _) (q3:v 3 = _) (q4:v 4 = _) (q5:v 5 = _) (q6:v 6 = _) (q7:(fun v w'=>∃ gk,v 7 = .pointer (some ⟨gk,0,none⟩) /\ W.heap.size <= gk /\ Blk w' gk 273 #[.bool false,.bool false,.nilFunc]) v w1);intro w2 hE;replace hE:(fun v w1 w'=>(∃ gk,v 7 = .pointer (some ⟨gk,0,none⟩) /\ W.heap.size <= gk /\ Blk w' gk 273 #[.bool A,.bool B,.func (.func F) #[] #[]] /\ Below gk w1 w') /\ v 9 = .bool true) v w1 w2:=hE;simp only [Flow.acts,Act.put];go_simp;obtain ⟨⟨gk,h7,hgl,hbk,hlo⟩,h9⟩:=hE;rw [h7];have HX2:Hid (Ext W w2):=Lib.hid (Below.trans (hdr.trans hx) (hlo.mono hgl));have HK0:=Lib.hid (K0.out.ext HX2.out);have HK1:=Lib.hid (K1.out.ext HX2.out);have HKK:=Lib.hid hbk;have c0:=(hbk).cell 0;have c1:=(hbk).cell 1;have c2:=(hbk).cell 2;simp only [Go.Tw.gA,Go.Tw.gB,Go.Tw.gC] at c0 c1 c2;have d1:=HK0.out.cell 1;have d2:=HK0.out.cell 2;simp only [Go.Tw.gA,Go.Tw.gB,Go.Tw.gC] at d1 d2;have hcn:=HK1.out.cell 0;simp only [Go.Tw.gA,Go.Tw.gB] at hcn;have HCN:=Lib.hid hcn;clear hx hdr hbk hlo h9 h7 q0 q1 q2 q3 q4 q5 q6 q7 hcn;go_wp2_with fail;refine (fits_any _ lf A (g + 1) n HCN.out HA.out).mono ?_;rintro e w3 ⟨rfl,hw⟩;subst hw;go_wp2_with fail;refine (fits_any _ lt B (g + 1) n HCN.out HB.out).mono ?_;rintro e w3 ⟨rfl,hw⟩;subst hw;go_upto_region 8 with fail;obtain ⟨q,hAB⟩:∃ q,(A && !B) = q:=⟨_,rfl⟩;cases q
  . have HLM:Hid (0 <= la /\ la <= 1024):=Lib.hid (by have:=HL.out; simp only [hAB] at this; exact this)
    have HEQ:∀ w,(binOp .eql 270 (.agg #[.bool A,.bool B]) (.agg #[.bool true,.bool false])).run Tryz.prog w = .ok (.bool false) w:=fun w=>by have h:=Tryz.K0h A B w; rw [hAB] at h; exact h
    replace HEQ:=Lib.hid HEQ;go_upto_region 10 with (first | (refine Q8a rfl _ 270 rfl Tryz.Z2u Tryz.X9v rfl (J1r HKK.out) rfl ?_) | (refine X0j rfl rfl ?_) | (refine Q9t rfl _ _ 270 _ rfl rfl rfl HEQ.out Tryz.Z0e ?_))
    have hdr:=(Ext.refl w2).drew;have hne:(lf == lt) = false:=by simp [HR.out]
    clear c0 c1 c2 d1 d2;refine Flow.Q1q [.p,.w,.p,.w,.p,.w,.p,.w,.p,.w,.p,.w,.w,.w,.w,.p] [0,1,2,3,4,5,6,7,8,9,10,11,12,13,14,15] [[],[0],[],[2],[1,3],[4],[],[6],[],[5,7,8],[],[10],[9,11],[5,9,12],[12,13],[0,1,2,3,4,5,6,7,8,9,10,11,12,13,14]]
     [.c 0 (.pointer (some ⟨g,1,none⟩)),.c 1 (.int .i64 lf),.c 2 (.pointer (some ⟨g,2,none⟩)),.c 3 (.int .i64 lt),.c 4 (.bool (lf == lt)),.c 5 (.int .i64 0),.c 6 (.pointer (some ⟨g,3,none⟩)),.c 7 (.int .i64 la),.c 8 (.int .i64 1024),.c 9 (.int .i64 0),.c 10 (.pointer (some ⟨g,4,none⟩)),.c 11 (.int .i64 lr),.c 12 (.int .i64 0),⟨fun v wz=>Q0e wz (v 13) [0,0,0],fun _ _ _ hx h=>h.ext hx⟩,.c 14 (.int .i64 0),.c 15 (.int .i64 0)]
     (by kernel_rfl) rfl (by kernel_rfl) ⟨?g0,?g1,?g2,?g3,?g4,?g5,?g6,?g7,?g8,?g9,?g10,?g11,?g12,?g13,?g14,?g15,trivial⟩ ?post
    case g0 | g2 | g6 | g8 | g10=>
     intro v w1 hx;intro bb hbb;subst hbb;refine ⟨_,fun w=>?_,rfl⟩;go_simp
    case g1 | g3 | g7 | g11=>
     intro v w1 hx;(repeat intro (zq:v _ = _));intro bb hbb;subst hbb;have n0:w1.cell? ⟨g,1,none⟩ = some (.int .i64 lf):=(HK0.out.ext (hdr.trans hx)).cell 1;have n1:w1.cell? ⟨g,2,none⟩ = some (.int .i64 lt):=(HK0.out.ext (hdr.trans hx)).cell 2;have n2:w1.cell? ⟨g,3,none⟩ = some (.int .i64 la):=(HK0.out.ext (hdr.trans hx)).cell 3;have n3:w1.cell? ⟨g,4,none⟩ = some (.int .i64 lr):=(HK0.out.ext (hdr.trans hx)).cell 4;intro K hK;go_simp;exact hK _ _ (Ext.refl _) rfl
    case g4=>
     intro v w1 hx;(repeat intro (zq:v _ = _));intro bb hbb;subst hbb;refine ⟨_,fun w=>?_,rfl⟩;go_simp
    case g5=>
     intro v w1 hx;(repeat intro (zq:v _ = _));intro bb hbb;subst hbb;intro K hK;go_simp;refine Q0f (X3t w1 false 17 rfl) ?_;rintro e w2 ⟨rfl,rfl⟩;exact ⟨_,rfl,hK _ _ (Ext.refl _) rfl⟩
    case g9=>
     intro v w1 hx;(repeat intro (zq:v _ = _));intro bb hbb;subst hbb;intro K hK;go_simp;refine Q0f (X0k w1 la 0 1024 HLM.out) ?_;rintro e w2 ⟨rfl,rfl⟩;exact ⟨_,rfl,hK _ _ (Ext.refl _) rfl⟩
    case g12=>
     intro v w1 hx;(repeat intro (zq:v _ = _));intro bb hbb;subst hbb;intro K hK;go_simp;refine Q0f (X0k w1 lr 1 1000 HQ.out) ?_;rintro e w2 ⟨rfl,rfl⟩;exact ⟨_,rfl,hK _ _ (Ext.refl _) rfl⟩
    case g13=>
     intro v w1 hx;(repeat intro (zq:v _ = _));intro bb hbb;subst hbb;intro K hK;go_simp;exact hK _ _ (Ext.box _ _) (Q2l (l:=[0,0,0]) (by simp))
    case g14=>
     intro v w1 hx (q12:v 12 = _) (q13:Q0e w1 (v 13) [0,0,0]);intro bb hbb;subst hbb;intro K hK;go_simp;refine Q0f (Q7r w1 _ [0,0,0] q13 (by simp)) ?_
     rintro e w2 ⟨rfl,rfl⟩;exact ⟨_,rfl,hK _ _ (Ext.refl _) rfl⟩
    case g15=>
     intro v w1 hx (q0:v 0 = _) (q1:v 1 = _) (q2:v 2 = _) (q3:v 3 = _) (q4:v 4 = _) (q5:v 5 = _) (q6:v 6 = _) (q7:v 7 = _) (q8:v 8 = _) (q9:v 9 = _) (q10:v 10 = _) (q11:v 11 = _) (q12:v 12 = _) _ (q14:v 14 = _);intro bb hbb;subst hbb;refine ⟨_,fun w=>?_,rfl⟩;go_simp
    case post =>
     intro v w1 hx;(iterate 13 intro (zq:v _ = _));intro (q13:Q0e w1 (v 13) [0,0,0]);(iterate 2 intro (zq:v _ = _));simp only [Flow.All,Flow.acts,Act.put];go_simp;have HX9:=Lib.hid (HX2.out.trans (hdr.trans hx));clear hx hdr q13;go_wp2;go_ret;exact ⟨rfl,HXW.out.trans HX9.out⟩
  . have HLM:Hid (0 <= la /\ la <= 0):=Lib.hid (by have:=HL.out; simp only [hAB] at this; exact this)
    have HEQ:∀ w,(binOp .eql 270 (.agg #[.bool A,.bool B]) (.agg #[.bool true,.bool false])).run Tryz.prog w = .ok (.bool true) w:=fun w=>by have h:=Tryz.K0h A B w; rw [hAB] at h; exact h
    replace HEQ:=Lib.hid HEQ;go_upto_region 10 with (first | (refine Q8a rfl _ 270 rfl Tryz.Z2u Tryz.X9v rfl (J1r HKK.out) rfl ?_) | (refine X0j rfl rfl ?_) | (refine Q9t rfl _ _ 270 _ rfl rfl rfl HEQ.out Tryz.Z0e ?_))
    have hdr:=(Ext.refl w2).drew;have hne:(lf == lt) = false:=by simp [HR.out]
    clear c0 c1 c2 d1 d2;refine Flow.Q1q [.p,.w,.p,.w,.p,.w,.p,.w,.p,.w,.p,.w,.w,.w,.w,.p] [0,1,2,3,4,5,6,7,8,9,10,11,12,13,14,15] [[],[0],[],[2],[1,3],[4],[],[6],[],[5,7,8],[],[10],[9,11],[5,9,12],[12,13],[0,1,2,3,4,5,6,7,8,9,10,11,12,13,14]]
     [.c 0 (.pointer (some ⟨g,1,none⟩)),.c 1 (.int .i64 lf),.c 2 (.pointer (some ⟨g,2,none⟩)),.c 3 (.int .i64 lt),.c 4 (.bool (lf == lt)),.c 5 (.int .i64 0),.c 6 (.pointer (some ⟨g,3,none⟩)),.c 7 (.int .i64 la),.c 8 (.int .i64 0),.c 9 (.int .i64 0),.c 10 (.pointer (some ⟨g,4,none⟩)),.c 11 (.int .i64 lr),.c 12 (.int .i64 0),⟨fun v wz=>Q0e wz (v 13) [0,0,0],fun _ _ _ hx h=>h.ext hx⟩,.c 14 (.int .i64 0),.c 15 (.int .i64 0)]
     (by kernel_rfl) rfl (by kernel_rfl) ⟨?g0,?g1,?g2,?g3,?g4,?g5,?g6,?g7,?g8,?g9,?g10,?g11,?g12,?g13,?g14,?g15,trivial⟩ ?post
    case g0 | g2 | g6 | g8 | g10=>
     intro v w1 hx;intro bb hbb;subst hbb;refine ⟨_,fun w=>?_,rfl⟩;go_simp
    case g1 | g3 | g7 | g11=>
     intro v w1 hx;(repeat intro (zq:v _ = _));intro bb hbb;subst hbb;have n0:w1.cell? ⟨g,1,none⟩ = some (.int .i64 lf):=(HK0.out.ext (hdr.trans hx)).cell 1;have n1:w1.cell? ⟨g,2,none⟩ = some (.int .i64 lt):=(HK0.out.ext (hdr.trans hx)).cell 2;have n2:w1.cell? ⟨g,3,none⟩ = some (.int .i64 la):=(HK0.out.ext (hdr.trans hx)).cell 3;have n3:w1.cell? ⟨g,4,none⟩ = some (.int .i64 lr):=(HK0.out.ext (hdr.trans hx)).cell 4;intro K hK;go_simp;exact hK _ _ (Ext.refl _) rfl
    case g4=>
     intro v w1 hx;(repeat intro (zq:v _ = _));intro bb hbb;subst hbb;refine ⟨_,fun w=>?_,rfl⟩;go_simp
    case g5=>
     intro v w1 hx;(repeat intro (zq:v _ = _));intro bb hbb;subst hbb;intro K hK;go_simp;refine Q0f (X3t w1 false 17 rfl) ?_;rintro e w2 ⟨rfl,rfl⟩;exact ⟨_,rfl,hK _ _ (Ext.refl _) rfl⟩
    case g9=>
     intro v w1 hx;(repeat intro (zq:v _ = _));intro bb hbb;subst hbb;intro K hK;go_simp;refine Q0f (X0k w1 la 0 0 HLM.out) ?_;rintro e w2 ⟨rfl,rfl⟩;exact ⟨_,rfl,hK _ _ (Ext.refl _) rfl⟩
    case g12=>
     intro v w1 hx;(repeat intro (zq:v _ = _));intro bb hbb;subst hbb;intro K hK;go_simp;refine Q0f (X0k w1 lr 1 1000 HQ.out) ?_;rintro e w2 ⟨rfl,rfl⟩;exact ⟨_,rfl,hK _ _ (Ext.refl _) rfl⟩
    case g13=>
     intro v w1 hx;(repeat intro (zq:v _ = _));intro bb hbb;subst hbb;intro K hK;go_simp;exact hK _ _ (Ext.box _ _) (Q2l (l:=[0,0,0]) (by simp))
    case g14=>
     intro v w1 hx (q12:v 12 = _) (q13:Q0e w1 (v 13) [0,0,0]);intro bb hbb;subst hbb;intro K hK;go_simp;refine Q0f (Q7r w1 _ [0,0,0] q13 (by simp)) ?_
     rintro e w2 ⟨rfl,rfl⟩;exact ⟨_,rfl,hK _ _ (Ext.refl _) rfl⟩
    case g15=>
     intro v w1 hx (q0:v 0 = _) (q1:v 1 = _) (q2:v 2 = _) (q3:v 3 = _) (q4:v 4 = _) (q5:v 5 = _) (q6:v 6 = _) (q7:v 7 = _) (q8:v 8 = _) (q9:v 9 = _) (q10:v 10 = _) (q11:v 11 = _) (q12:v 12 = _) _ (q14:v 14 = _);intro bb hbb;subst hbb;refine ⟨_,fun w=>?_,rfl⟩;go_simp
    case post =>
     intro v w1 hx;(iterate 13 intro (zq:v _ = _));intro (q13:Q0e w1 (v 13) [0,0,0]);(iterate 2 intro (zq:v _ = _));simp only [Flow.All,Flow.acts,Act.put];go_simp;have HX9:=Lib.hid (HX2.out.trans (hdr.trans hx));clear hx hdr q13;go_wp2;go_ret;exact ⟨rfl,HXW.out.trans HX9.out⟩
end Go.Proofs
namespace Go.Tw
open Go.RowKit Go.Flow Go.Ba
structure Q1j.Fine (b:Q1j):Prop where
 ok:b.Ok
 links:∀ k,k < b.links.length -> Y8n (lk b.links k) b.nodes.length
 names:∀ k,k < b.nodes.length -> nameB (X7d b.nodes k) = true
 diff:∀ j k,j < k -> k < b.nodes.length -> X7d b.nodes j ≠ X7d b.nodes k
end Go.Tw
namespace Go.Proofs
open Go.RowKit Go.Tw Go.Flow Go.Ba
attribute [local go_sem] Oper.semAt_some
theorem Z5m (w:World) (l:Q6r) (g n:Nat) (A:Option Addr) (capa:Nat) (u:Value) (hb:Blk w g 40 #[.slice A n capa,u]) (h:Y8n l n) :
    Calls Tryz.prog 141 #[lkV l.kind l.src l.dst l.lev l.rate,.pointer (some ⟨g,0,none⟩)] w fun e w'=>e = .returned (.int .i64 0) /\ Ext w w':=by
 obtain ⟨kd,lf,lt,la,lr⟩:=l;have H:=Lib.hid h;have HB:=Lib.hid hb;clear h hb;dsimp only;go_enter Tryz.func141,Tryz.ntmps141;go_upto_region 1 with fail;obtain ⟨W,hWW,k0,HXW,eW⟩:=Q2y w 106 #[.string kd,.int .i64 lf,.int .i64 lt,.int .i64 la,.int .i64 lr];rw [hWW];clear hWW;have n0:=(HB.out.ext HXW.out).cell 0;simp only [Go.Tw.gA,Go.Tw.gB] at n0;have K0:=Lib.hid k0;clear k0;go_wp2_with (first | (refine Q0j rfl _ _ rfl Tryz.J6d Tryz.J0e rfl K0.out rfl ?_) | fail)
 refine (Y4w _ ⟨kd,lf,lt,la,lr⟩ n H.out).mono ?_;rintro e w2 ⟨rfl,hx2⟩;have HX2:=Lib.hid (HXW.out.trans hx2);clear hx2;go_wp2;go_ret;exact ⟨rfl,HX2.out⟩
theorem Y7f (w:World) (x:Q1j) (v u:Value) (g capa:Nat) (A:Option Addr) (hv:X1p w v x.links) (hb:Blk w g 40 #[.slice A x.nodes.length capa,u]) (hf:∀ k,k < x.links.length -> Y8n (lk x.links k) x.nodes.length) (hm:x.links.length <= 16) :
    Calls Tryz.prog 140 #[v,.func (.func 141) #[] #[.pointer (some ⟨g,0,none⟩)]] w fun e w'=>∃ r,e = .returned r /\ Q0e w' r (List.replicate x.links.length 0) /\ Ext w w':=by
 obtain ⟨i0,hi,hz0,hz1,hz2⟩:=info_parts Tryz.X4d;obtain ⟨A1,cap,rfl,-,-,-⟩:=hv.opened;have HV:=Lib.hid hv;have HF:=Lib.hid hf;have HB:=Lib.hid hb;have HL:=Lib.hid hm;obtain ⟨m,hmm⟩:∃ z,x.links.length = z:=⟨_,rfl⟩;have HM:=Lib.hid hmm;rw [hmm];clear hv hf hb hm hmm;go_enter Tryz.func140,Tryz.ntmps140;go_wp2
 go_loopw [5,10] (fun o i wr=>∃ k:Nat,k <= m /\ i = .int .i64 k /\ Q0i wr w.heap.size 34 (.int .i64) o (List.replicate k 0) /\ Ext w wr) (fun _ i _=>m - (intOf i).toNat)
 case atStart=>exact ⟨0,Nat.zero_le _,rfl,Q0i.nil _ _ _ _,Ext.refl _⟩
 case round =>
  obtain ⟨k,hk,rfl,hown,hx⟩:=hrel;have HOWN:=Lib.hid hown;have HXR:=Lib.hid hx
  by_cases hlt:k < m
  . have hkI:(k:Int) < (m:Int):=by omega
    have HK:=Lib.hid hlt;have HWK:Hid (wrap64 ((k:Int) + 1) = (k:Int) + 1):=Lib.hid (by have:=HL.out; have:=HM.out; unfold wrap64; omega)
    obtain ⟨L9,c9,h9,-,-,hcx⟩:=(HV.out.ext hx).opened;obtain ⟨bx,ox,hbx,-,d0,d1,d2,d3,d4,-⟩:=hcx k (by rw [HM.out]; exact hlt)
    rw [HM.out] at h9;injection h9 with k1 k2 k3;subst k1 k3;subst hbx;have hlo:=HF.out k (by rw [HM.out]; exact hlt)
    obtain ⟨l,hl⟩:∃ z,lk x.links k = z:=⟨_,rfl⟩;rw [hl] at d0 d1 d2 d3 d4 hlo;have HLO:=Lib.hid hlo;obtain ⟨kd,lf,lt,la,lr⟩:=l;dsimp only at d0 d1 d2 d3 d4;clear hcx hl hown hx k2 hlo hk hlt;go_upto_region 5 with fail;clear d0 d1 d2 d3 d4;obtain ⟨gl,hgl⟩:∃ z,wr.heap.size = z:=⟨_,rfl⟩;have hxb:=Ext.box wr (.cells (lkC kd lf lt la lr) 106);have hkb:=Blk.made wr 106 (lkC kd lf lt la lr);obtain ⟨W7,hW7⟩:∃ z,wr.alloc (.cells (lkC kd lf lt la lr) 106) = z:=⟨_,rfl⟩;rw [hW7,hgl] at hkb;rw [hW7] at hxb ⊢;rw [hgl];have HKB:=Lib.hid hkb;have HXB:=Lib.hid (HXR.out.trans hxb);have HXB0:=Lib.hid hxb;clear hW7 hxb hkb hgl;go_wp2_with (first | (refine Q0j rfl _ _ rfl Tryz.J6d Tryz.J0e rfl HKB.out rfl ?_) | fail)
    refine (Z5m _ ⟨kd,lf,lt,la,lr⟩ g _ A capa u (HB.out.ext HXB.out) HLO.out).mono ?_;rintro e w8 ⟨rfl,hx8⟩;have hx:=HXB.out.trans hx8;have hown:=HOWN.out.below (HXB0.out.trans hx8);have hll:(List.replicate k (0:Int)).length <= 4096:=by rw [List.length_replicate]; have:=HK.out; have:=HL.out; have:=HM.out; omega
    clear HKB HXB HXB0 hx8;go_wp2_with (at_builtin; refine wpList_append_own _ rfl _ _ 178 rfl (w.heap.size) 34 i0 (.int .i64 0) 1 8 Tryz.underlying178 hi hz0 hz1 hz2 rfl (by decide) _ _ _ rfl (World.ownsRow.alloc hown _) ⟨w8.heap.size,0,none⟩ 1 1 [.int .i64 0] rfl rfl ?_ ?_ ?_ ?_ ?_ ?_; exact Q4p _ _ _; (focus (simp [Value.oneCell'])); (focus (unfold maxLen; omega)); (focus omega); (focus (have:=hx.size; simp at this ⊢; omega)); intro v' w1 hown' hgrow _)
    have hx':=Q3b hx hown (Nat.le_refl _) hgrow;go_wp2;go_roundw
    case rel=>exact ⟨k + 1,by have:=HK.out; omega,by (try rw [HWK.out]); go_num,by have h:=Q0i.snoc hown'; rwa [<- List.replicate_succ'] at h,hx'⟩
    case measure=>have:=HK.out; (try rw [HWK.out]); simp [intOf]; omega
  . obtain rfl:k = m:=by omega
    have hkI:¬ (k:Int) < (k:Int):=by omega
    have HLE:Hid ((List.replicate k (0:Int)).length <= 17592186043904):=Lib.hid (by rw [List.length_replicate]; have:=HL.out; have:=HM.out; omega)
    clear hown hx;go_wp2;go_ret;exact ⟨_,rfl,HOWN.out.ints HLE.out,HXR.out⟩
end Go.Proofs
