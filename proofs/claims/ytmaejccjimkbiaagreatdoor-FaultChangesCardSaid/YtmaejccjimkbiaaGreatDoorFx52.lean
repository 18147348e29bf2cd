/- Contract of the reference: Same, of two values that read as one tree. -/
import Derived.Test.YtmaejccjimkbiaaGreatDoorFx39
set_option linter.unusedVariables false
set_option linter.unusedSimpArgs false
set_option linter.constructorNameAsVariable false
namespace Go.Proofs
open Go.RowKit Go.Tw Go.Flow
theorem Tryz.Z4v (w:World):(isAgg 80).run Tryz.prog w = .ok true w:=by kernel_rfl
theorem Tryz.Z2s (w:World):(sizeOf 80).run Tryz.prog w = .ok 2 w:=by kernel_rfl
theorem Tryz.Y7x:Tryz.prog.eqGuardType Tryz.prog.depth 80 = false:=by kernel_rfl
theorem Y6q (w:World) (s:ByteArray) (c:Int):(binOp .neq 80 (.agg #[.string s,.int .i64 c]) (.agg #[.string s,.int .i64 c])).run Tryz.prog w = .ok (.bool false) w:=by
 have u3:=Tryz.underlying3;have u9:=Tryz.underlying9;have a3:∀ w,(isAgg 3).run Tryz.prog w = .ok false w:=fun w=>by kernel_rfl
 have z3:∀ w,(sizeOf 3).run Tryz.prog w = .ok 1 w:=fun w=>by kernel_rfl
 have a9:∀ w,(isAgg 9).run Tryz.prog w = .ok false w:=fun w=>by kernel_rfl
 have z9:∀ w,(sizeOf 9).run Tryz.prog w = .ok 1 w:=fun w=>by kernel_rfl
 have hS:Tryz.prog.underlying 80 = some (.struct (Tryz.prog.fieldsOf 80)):=by kernel_rfl
 have hp:Tryz.prog.stoodInHeld 80 = false:=by kernel_rfl
 rw [run_neq_struct,show (10000:Nat) = 9999 + 1 from rfl,run_equalIn_agg w 9999 80 _ _ hS hp]
 simp only [Program.fieldsOf,Tryz.underlying80];go_simp
theorem Y0x {w:World} {o:Oper} {a:Act} (x y:Operand) {T2:TypeId} (hop:o.op = .binOp .neq 80 x y T2) {s:ByteArray} {c:Int} (hx:a.eval x = .agg #[.string s,.int .i64 c]) (hy:a.eval y = .agg #[.string s,.int .i64 c]):(execOp a.eval o).run Tryz.prog w = .ok (.value (.bool false)) w:=by
 unfold execOp;simp only [hop,hx,hy,Sem.run_bind,run_eqGuard_agg w .neq 80 x y _ _ Tryz.Y7x,Result.andThen_ok,Y6q,Sem.run_pure]
theorem Z5u {w:World} {g o:Nat} {x y:Value} (h0:w.cell? ⟨g,o,none⟩ = some x) (h1:w.cell? ⟨g,o + 1,none⟩ = some y):Part w g o #[x,y]:=by
 intro k hk
 match k,hk with
 | 0,_=>exact h0
 | 1,_=>exact h1
set_option maxRecDepth 100000 in
set_option maxHeartbeats 4000000 in
theorem Y8h (w:World) (u v:Value) (t:Tree) (hu:IsTree w u t) (hv:IsTree w v t) :
    Calls Tryz.prog 30 #[u,v] w fun e w'=>e = .returned (.bool true) ∧ Ext w w':=by
 obtain ⟨a1,a2,a3,rfl,h3⟩:=hu;obtain ⟨A,capa,rfl,hl1,hcap1,_⟩:=h3.basics.opened;obtain ⟨B,capb,rfl,hl2,hcap2,_⟩:=h3.causes.opened;obtain ⟨G,capg,rfl,hl3,hcap3,_⟩:=h3.gates.opened;obtain ⟨e1,e2,e3,rfl,k3⟩:=hv;obtain ⟨A',capa',rfl,_,hcap1',_⟩:=k3.basics.opened;obtain ⟨B',capb',rfl,_,hcap2',_⟩:=k3.causes.opened;obtain ⟨G',capg',rfl,_,hcap3',_⟩:=k3.gates.opened;have HU:=Lib.hid h3;have HV:=Lib.hid k3;clear h3 k3;go_enter Tryz.func30,Tryz.ntmps30;go_wp2_with fail;change Code.wp _ _ _ _ ((w.alloc (.cells #[.slice A t.basics.length capa,.slice B t.causes.length capb,.slice G t.gates.length capg] 26)).alloc (.cells #[.slice A' t.basics.length capa',.slice B' t.causes.length capb',.slice G' t.gates.length capg'] 26));have k0:=Blk.made w 26 #[.slice A t.basics.length capa,.slice B t.causes.length capb,.slice G t.gates.length capg];have x0:=Ext.box w (.cells #[.slice A t.basics.length capa,.slice B t.causes.length capb,.slice G t.gates.length capg] 26);have es0:(w.alloc (.cells #[.slice A t.basics.length capa,.slice B t.causes.length capb,.slice G t.gates.length capg] 26)).heap.size = w.heap.size + 1:=by simp
 obtain ⟨X0,hX0⟩:∃ X,w.alloc (.cells #[.slice A t.basics.length capa,.slice B t.causes.length capb,.slice G t.gates.length capg] 26) = X:=⟨_,rfl⟩;rw [hX0] at k0 x0 es0 ⊢;clear hX0;have k1:=Blk.made X0 26 #[.slice A' t.basics.length capa',.slice B' t.causes.length capb',.slice G' t.gates.length capg'];have x1:=Ext.box X0 (.cells #[.slice A' t.basics.length capa',.slice B' t.causes.length capb',.slice G' t.gates.length capg'] 26);have es1:(X0.alloc (.cells #[.slice A' t.basics.length capa',.slice B' t.causes.length capb',.slice G' t.gates.length capg'] 26)).heap.size = X0.heap.size + 1:=by simp
 obtain ⟨X1,hX1⟩:∃ X,X0.alloc (.cells #[.slice A' t.basics.length capa',.slice B' t.causes.length capb',.slice G' t.gates.length capg'] 26) = X:=⟨_,rfl⟩;rw [hX1] at k1 x1 es1 ⊢;clear hX1;replace k0:=k0.ext x1;have e0:X0.heap.size = w.heap.size + 1:=by omega
 have e1:X1.heap.size = w.heap.size + 1 + 1:=by omega
 rw [e0] at k1;have HXW:Hid (Ext w X1):=by exact (Ext.trans (x0) x1:Ext w X1)
 have eW:X1.heap.size = w.heap.size + 1 + 1:=e1;clear x0 es0 e0 x1 es1 e1;obtain ⟨W,hWW⟩:∃ W,X1 = W:=⟨_,rfl⟩;rw [hWW] at HXW eW ⊢ k0 k1;clear hWW;have K0:=Lib.hid k0;have K1:=Lib.hid k1;replace HU:=Lib.hid (HU.out.ext HXW.out);replace HV:=Lib.hid (HV.out.ext HXW.out);have c0:=k0.cell 0;have c1:=k0.cell 1;have c2:=k0.cell 2;have d0:=k1.cell 0;have d1:=k1.cell 1;have d2:=k1.cell 2;simp only [List.getElem?_toArray,List.getElem?_cons_zero,List.getElem?_cons_succ] at c0 c1 c2 d0 d1 d2;clear k0 k1;go_wp2;clear c0 c1 c2 d0 d1 d2
 go_loopw [5] (fun i wr=>∃ k:Nat,k ≤ t.basics.length ∧ i = .int .i64 k ∧ Ext W wr) (fun i _=>t.basics.length - (intOf i).toNat)
 case atStart=>exact ⟨0,Nat.zero_le _,rfl,Ext.refl _⟩
 case round =>
  obtain ⟨k,hk,rfl,hx⟩:=hrel;have HX:=Lib.hid hx;have c0:=(K0.out.ext hx).cell 0;have c1:=(K0.out.ext hx).cell 1;have c2:=(K0.out.ext hx).cell 2;simp only [List.getElem?_toArray,List.getElem?_cons_zero,List.getElem?_cons_succ] at c0 c1 c2
  by_cases hlt:k < t.basics.length
  · obtain ⟨_,_,he0,_,_,hcc⟩:=HU.out.basics.opened
    cases he0;obtain ⟨b1,off1,rfl,_,e0,e1,_⟩:=hcc k hlt;obtain ⟨_,_,he1,_,_,hcd⟩:=HV.out.basics.opened;cases he1;obtain ⟨b2,off2,rfl,_,f0,f1,_⟩:=hcd k hlt;obtain ⟨nm,hnm⟩:∃ x,bName t.basics k = x:=⟨_,rfl⟩;obtain ⟨ch,hch⟩:∃ x,Q1l t.basics k = x:=⟨_,rfl⟩;rw [hnm] at e0 f0;rw [hch] at e1 f1;have HP1:Hid (Part wr b1 (off1 + k * 2) #[.string nm,.int .i64 ch]):=by exact (Z5u (hx.cell e0) (hx.cell e1):Part wr b1 (off1 + k * 2) #[.string nm,.int .i64 ch])
    have HP2:Hid (Part wr b2 (off2 + k * 2) #[.string nm,.int .i64 ch]):=by exact (Z5u (hx.cell f0) (hx.cell f1):Part wr b2 (off2 + k * 2) #[.string nm,.int .i64 ch])
    have HK0:=Lib.hid (K0.out.ext hx);have HK1:=Lib.hid (K1.out.ext hx);have hkI:(k:Int) < t.basics.length:=by omega
    have hdr:=(Ext.refl wr).drew;clear e0 e1 f0 f1 hcc hcd hnm hch hx;go_wp2;refine Flow.Q3g [.plain,.world,.plain,.plain,.world,.plain,.world,.plain,.plain,.world,.plain] [0,1,2,3,4,5,6,7,8,9,10] [[],[0],[],[1,2],[3],[],[5],[],[6,7],[8],[4,9]]
     [.is 0 (fun v=>.pointer (some ⟨w.heap.size,0,none⟩)),.is 1 (fun v=>.slice (some ⟨b1,off1,none⟩) t.basics.length capa),.is 2 (fun v=>.int .i64 k),.is 3 (fun v=>.pointer (some ⟨b1,off1 + k * 2,none⟩)),.is 4 (fun v=>.agg #[.string nm,.int .i64 ch]),.is 5 (fun v=>.pointer (some ⟨w.heap.size + 1,0,none⟩)),.is 6 (fun v=>.slice (some ⟨b2,off2,none⟩) t.basics.length capa'),.is 7 (fun v=>.int .i64 k),.is 8 (fun v=>.pointer (some ⟨b2,off2 + k * 2,none⟩)),.is 9 (fun v=>.agg #[.string nm,.int .i64 ch]),.is 10 (fun v=>.bool false)]
     (by kernel_rfl) rfl (by kernel_rfl) ⟨?g0,?g1,?g2,?g3,?g4,?g5,?g6,?g7,?g8,?g9,?g10,trivial⟩ ?post
    case g0 =>
     intro v w1 hx;intro bb hbb;subst hbb;refine ⟨_,fun w=>?_,rfl⟩;go_simp
    case g1 =>
     intro v w1 hx (q0:v 0 = .pointer (some ⟨w.heap.size,0,none⟩));intro bb hbb;subst hbb;have n0:w1.cell? ⟨w.heap.size,0,none⟩ = some (.slice (some ⟨b1,off1,none⟩) t.basics.length capa):=(HK0.out.ext (hdr.trans hx)).cell 0;intro K hK;go_simp;exact hK _ _ (Ext.refl _) rfl
    case g2 =>
     intro v w1 hx;intro bb hbb;subst hbb;refine ⟨_,fun w=>?_,rfl⟩;go_simp
    case g3 =>
     intro v w1 hx (q1:v 1 = .slice (some ⟨b1,off1,none⟩) t.basics.length capa) (q2:v 2 = .int .i64 k);intro bb hbb;subst hbb;refine ⟨_,fun w=>?_,rfl⟩;go_simp
    case g4 =>
     intro v w1 hx (q3:v 3 = .pointer (some ⟨b1,off1 + k * 2,none⟩));intro bb hbb;intro K2 hK2;have o1:bb.eval (.tmp 43) = .pointer (some ⟨b1,off1 + k * 2,none⟩):=by rw [hbb]; dsimp only; (try simp (discharger:=decide) only [eval_put_ne]); rw [Q0a (by simp only [size_put]; exact (by decide:43 < 153))]; exact q3
     exact Q3b (.tmp 43) _ rfl Tryz.Z4v Tryz.Z2s o1 (HP1.out.ext (hdr.trans hx)) rfl (hK2 _ _ (Ext.refl _) rfl)
    case g5 =>
     intro v w1 hx;intro bb hbb;subst hbb;refine ⟨_,fun w=>?_,rfl⟩;go_simp
    case g6 =>
     intro v w1 hx (q5:v 5 = .pointer (some ⟨w.heap.size + 1,0,none⟩));intro bb hbb;subst hbb;have n0:w1.cell? ⟨w.heap.size + 1,0,none⟩ = some (.slice (some ⟨b2,off2,none⟩) t.basics.length capa'):=(HK1.out.ext (hdr.trans hx)).cell 0;intro K hK;go_simp;exact hK _ _ (Ext.refl _) rfl
    case g7 =>
     intro v w1 hx;intro bb hbb;subst hbb;refine ⟨_,fun w=>?_,rfl⟩;go_simp
    case g8 =>
     intro v w1 hx (q6:v 6 = .slice (some ⟨b2,off2,none⟩) t.basics.length capa') (q7:v 7 = .int .i64 k);intro bb hbb;subst hbb;refine ⟨_,fun w=>?_,rfl⟩;go_simp
    case g9 =>
     intro v w1 hx (q8:v 8 = .pointer (some ⟨b2,off2 + k * 2,none⟩));intro bb hbb;intro K2 hK2;have o1:bb.eval (.tmp 48) = .pointer (some ⟨b2,off2 + k * 2,none⟩):=by rw [hbb]; dsimp only; (try simp (discharger:=decide) only [eval_put_ne]); rw [Q0a (by simp only [size_put]; exact (by decide:48 < 153))]; exact q8
     exact Q3b (.tmp 48) _ rfl Tryz.Z4v Tryz.Z2s o1 (HP2.out.ext (hdr.trans hx)) rfl (hK2 _ _ (Ext.refl _) rfl)
    case g10 =>
     intro v w1 hx (q4:v 4 = .agg #[.string nm,.int .i64 ch]) (q9:v 9 = .agg #[.string nm,.int .i64 ch]);intro bb hbb;have o1:bb.eval (.tmp 44) = .agg #[.string nm,.int .i64 ch]:=by rw [hbb]; dsimp only; (try simp (discharger:=decide) only [eval_put_ne]); rw [Q0a (by simp only [size_put]; exact (by decide:44 < 153))]; exact q4
     have o2:bb.eval (.tmp 49) = .agg #[.string nm,.int .i64 ch]:=by rw [hbb]; dsimp only; (try simp (discharger:=decide) only [eval_put_ne]); rw [Q0a (by simp only [size_put]; exact (by decide:49 < 153))]; exact q9
     exact ⟨_,fun w=>Y0x (.tmp 44) (.tmp 49) rfl o1 o2,rfl⟩
    case post =>
     intro v w1 hx (q0:v 0 = .pointer (some ⟨w.heap.size,0,none⟩)) (q1:v 1 = .slice (some ⟨b1,off1,none⟩) t.basics.length capa) (q2:v 2 = .int .i64 k) (q3:v 3 = .pointer (some ⟨b1,off1 + k * 2,none⟩)) (q4:v 4 = .agg #[.string nm,.int .i64 ch]) (q5:v 5 = .pointer (some ⟨w.heap.size + 1,0,none⟩)) (q6:v 6 = .slice (some ⟨b2,off2,none⟩) t.basics.length capa') (q7:v 7 = .int .i64 k) (q8:v 8 = .pointer (some ⟨b2,off2 + k * 2,none⟩)) (q9:v 9 = .agg #[.string nm,.int .i64 ch]) (q10:v 10 = .bool false);simp only [Flow.All,Flow.acts,Act.put];go_simp;have HX9:=Lib.hid (HX.out.trans (hdr.trans hx));clear hx hdr q0 q1 q2 q3 q4 q5 q6 q7 q8 q9 q10;go_wp2;go_roundw
     case rel=>exact ⟨k + 1,by omega,by go_num,HX9.out⟩
     case measure=>simp [intOf]; omega
  · go_wp2
    clear c0 c1 c2
    go_loopw [6] (fun i wr=>∃ k:Nat,k ≤ t.causes.length ∧ i = .int .i64 k ∧ Ext W wr) (fun i _=>t.causes.length - (intOf i).toNat)
    case atStart=>exact ⟨0,Nat.zero_le _,rfl,HX.out⟩
    case round =>
     obtain ⟨k,hk,rfl,hx⟩:=hrel;have HX:=Lib.hid hx;have c0:=(K0.out.ext hx).cell 0;have c1:=(K0.out.ext hx).cell 1;have c2:=(K0.out.ext hx).cell 2;simp only [List.getElem?_toArray,List.getElem?_cons_zero,List.getElem?_cons_succ] at c0 c1 c2
     by_cases hlt:k < t.causes.length
     · obtain ⟨_,_,he0,_,_,hcc⟩:=HU.out.causes.opened
       cases he0;obtain ⟨b1,off1,m1,rfl,_,e0,e1,e2,hM,_⟩:=hcc k hlt;obtain ⟨_,_,he1,_,_,hcd⟩:=HV.out.causes.opened;cases he1;obtain ⟨b2,off2,m2,rfl,_,f0,f1,f2,hN,_⟩:=hcd k hlt;obtain ⟨nm,hnm⟩:∃ x,cName t.causes k = x:=⟨_,rfl⟩;obtain ⟨ch,hch⟩:∃ x,Q1d t.causes k = x:=⟨_,rfl⟩;obtain ⟨ml,hml⟩:∃ x,Q0c t.causes k = x:=⟨_,rfl⟩;rw [hnm] at e0 f0;rw [hch] at e1 f1;rw [hml] at hM hN;obtain ⟨M1,cm1,rfl,_,_,_⟩:=hM.opened;obtain ⟨M2,cm2,rfl,_,_,_⟩:=hN.opened;have C10:=Lib.hid (hx.cell e0);have C11:=Lib.hid (hx.cell e1);have C12:=Lib.hid (hx.cell e2);have C20:=Lib.hid (hx.cell f0);have C21:=Lib.hid (hx.cell f1);have C22:=Lib.hid (hx.cell f2);have HM:=Lib.hid (hM.ext hx);have HN:=Lib.hid (hN.ext hx);have HSI:Hid (∀ w',Ext wr w' → Calls Tryz.prog 65 #[.slice M1 ml.length cm1,.slice M2 ml.length cm2] w' fun e w''=>e = .returned (.bool true) ∧ Ext w' w''):=by
        exact (fun w' h=>by
         have h1:=Q7l w' _ _ ml ml (HM.out.ext h) (HN.out.ext h);rw [decide_eq_true rfl] at h1;exact h1:∀ w',Ext wr w' → Calls Tryz.prog 65 #[.slice M1 ml.length cm1,.slice M2 ml.length cm2] w' fun e w''=>e = .returned (.bool true) ∧ Ext w' w'')
       have HK0:=Lib.hid (K0.out.ext hx);have HK1:=Lib.hid (K1.out.ext hx);have hkI:(k:Int) < t.causes.length:=by omega
       have hdr:=(Ext.refl wr).drew;clear e0 e1 e2 f0 f1 f2 hcc hcd hnm hch hml hM hN hx;go_wp2;refine Flow.Q3g [.plain,.world,.plain,.plain,.plain,.world,.plain,.world,.plain,.plain,.plain,.world,.plain,.plain,.plain,.world,.plain,.plain,.plain,.world,.plain,.world,.plain,.plain,.plain,.world,.plain,.plain,.plain,.plain,.world,.plain,.plain,.plain,.world,.plain,.world,.plain,.plain,.plain,.world,.world,.plain,.plain] [0,1,2,3,4,5,6,7,8,9,10,11,12,13,14,15,16,17,18,19,20,21,22,23,24,25,26,27,28,29,30,31,32,33,34,35,36,37,38,39,40,41,42,43] [[],[0],[],[1,2],[3],[4],[],[6],[],[7,8],[9],[10],[5,11],[12],[13],[13,14],[13],[13,15,16],[13,17],[13,18],[13],[13,20],[13],[13,21,22],[13,23],[13,24],[13,19,25],[13,26],[13,27],[28],[28,29],[28],[28,30,31],[28,32],[28,33],[28],[28,35],[28],[28,36,37],[28,38],[28,39],[28,34,40],[28,41],[28,42]]
        [.is 0 (fun v=>.pointer (some ⟨w.heap.size,1,none⟩)),.is 1 (fun v=>.slice (some ⟨b1,off1,none⟩) t.causes.length capb),.is 2 (fun v=>.int .i64 k),.is 3 (fun v=>.pointer (some ⟨b1,off1 + k * 3,none⟩)),.is 4 (fun v=>.pointer (some ⟨b1,off1 + k * 3,none⟩)),.is 5 (fun v=>.string nm),.is 6 (fun v=>.pointer (some ⟨w.heap.size + 1,1,none⟩)),.is 7 (fun v=>.slice (some ⟨b2,off2,none⟩) t.causes.length capb'),.is 8 (fun v=>.int .i64 k),.is 9 (fun v=>.pointer (some ⟨b2,off2 + k * 3,none⟩)),.is 10 (fun v=>.pointer (some ⟨b2,off2 + k * 3,none⟩)),.is 11 (fun v=>.string nm),.is 12 (fun v=>.bool false),.is 13 (fun v=>.bool false),.is 14 (fun v=>.pointer (some ⟨w.heap.size,1,none⟩)),.is 15 (fun v=>.slice (some ⟨b1,off1,none⟩) t.causes.length capb),.is 16 (fun v=>.int .i64 k),.is 17 (fun v=>.pointer (some ⟨b1,off1 + k * 3,none⟩)),.is 18 (fun v=>.pointer (some ⟨b1,off1 + k * 3 + 1,none⟩)),.is 19 (fun v=>.int .i64 ch),.is 20 (fun v=>.pointer (some ⟨w.heap.size + 1,1,none⟩)),.is 21 (fun v=>.slice (some ⟨b2,off2,none⟩) t.causes.length capb'),.is 22 (fun v=>.int .i64 k),.is 23 (fun v=>.pointer (some ⟨b2,off2 + k * 3,none⟩)),.is 24 (fun v=>.pointer (some ⟨b2,off2 + k * 3 + 1,none⟩)),.is 25 (fun v=>.int .i64 ch),.is 26 (fun v=>.bool false),.is 27 (fun v=>.bool false),.is 28 (fun v=>.bool false),.is 29 (fun v=>.pointer (some ⟨w.heap.size,1,none⟩)),.is 30 (fun v=>.slice (some ⟨b1,off1,none⟩) t.causes.length capb),.is 31 (fun v=>.int .i64 k),.is 32 (fun v=>.pointer (some ⟨b1,off1 + k * 3,none⟩)),.is 33 (fun v=>.pointer (some ⟨b1,off1 + k * 3 + 2,none⟩)),.is 34 (fun v=>.slice M1 ml.length cm1),.is 35 (fun v=>.pointer (some ⟨w.heap.size + 1,1,none⟩)),.is 36 (fun v=>.slice (some ⟨b2,off2,none⟩) t.causes.length capb'),.is 37 (fun v=>.int .i64 k),.is 38 (fun v=>.pointer (some ⟨b2,off2 + k * 3,none⟩)),.is 39 (fun v=>.pointer (some ⟨b2,off2 + k * 3 + 2,none⟩)),.is 40 (fun v=>.slice M2 ml.length cm2),.is 41 (fun v=>.bool true),.is 42 (fun v=>.bool false),.is 43 (fun v=>.bool false)]
        (by kernel_rfl) rfl (by kernel_rfl) ⟨?g0,?g1,?g2,?g3,?g4,?g5,?g6,?g7,?g8,?g9,?g10,?g11,?g12,?g13,?g14,?g15,?g16,?g17,?g18,?g19,?g20,?g21,?g22,?g23,?g24,?g25,?g26,?g27,?g28,?g29,?g30,?g31,?g32,?g33,?g34,?g35,?g36,?g37,?g38,?g39,?g40,?g41,?g42,?g43,trivial⟩ ?post
       case g0 =>
        intro v w1 hx;intro bb hbb;subst hbb;refine ⟨_,fun w=>?_,rfl⟩;go_simp
       case g1 =>
        intro v w1 hx (q0:v 0 = .pointer (some ⟨w.heap.size,1,none⟩));intro bb hbb;subst hbb;have n0:w1.cell? ⟨w.heap.size,1,none⟩ = some (.slice (some ⟨b1,off1,none⟩) t.causes.length capb):=(HK0.out.ext (hdr.trans hx)).cell 1;intro K hK;go_simp;exact hK _ _ (Ext.refl _) rfl
       case g2 =>
        intro v w1 hx;intro bb hbb;subst hbb;refine ⟨_,fun w=>?_,rfl⟩;go_simp
       case g3 =>
        intro v w1 hx (q1:v 1 = .slice (some ⟨b1,off1,none⟩) t.causes.length capb) (q2:v 2 = .int .i64 k);intro bb hbb;subst hbb;refine ⟨_,fun w=>?_,rfl⟩;go_simp
       case g4 =>
        intro v w1 hx (q3:v 3 = .pointer (some ⟨b1,off1 + k * 3,none⟩));intro bb hbb;subst hbb;refine ⟨_,fun w=>?_,rfl⟩;go_simp
       case g5 =>
        intro v w1 hx (q4:v 4 = .pointer (some ⟨b1,off1 + k * 3,none⟩));intro bb hbb;subst hbb;have n0:w1.cell? ⟨b1,off1 + k * 3,none⟩ = some (.string nm):=(hdr.trans hx).cell C10.out;intro K hK;go_simp;exact hK _ _ (Ext.refl _) rfl
       case g6 =>
        intro v w1 hx;intro bb hbb;subst hbb;refine ⟨_,fun w=>?_,rfl⟩;go_simp
       case g7 =>
        intro v w1 hx (q6:v 6 = .pointer (some ⟨w.heap.size + 1,1,none⟩));intro bb hbb;subst hbb;have n0:w1.cell? ⟨w.heap.size + 1,1,none⟩ = some (.slice (some ⟨b2,off2,none⟩) t.causes.length capb'):=(HK1.out.ext (hdr.trans hx)).cell 1;intro K hK;go_simp;exact hK _ _ (Ext.refl _) rfl
       case g8 =>
        intro v w1 hx;intro bb hbb;subst hbb;refine ⟨_,fun w=>?_,rfl⟩;go_simp
       case g9 =>
        intro v w1 hx (q7:v 7 = .slice (some ⟨b2,off2,none⟩) t.causes.length capb') (q8:v 8 = .int .i64 k);intro bb hbb;subst hbb;refine ⟨_,fun w=>?_,rfl⟩;go_simp
       case g10 =>
        intro v w1 hx (q9:v 9 = .pointer (some ⟨b2,off2 + k * 3,none⟩));intro bb hbb;subst hbb;refine ⟨_,fun w=>?_,rfl⟩;go_simp
       case g11 =>
        intro v w1 hx (q10:v 10 = .pointer (some ⟨b2,off2 + k * 3,none⟩));intro bb hbb;subst hbb;have n0:w1.cell? ⟨b2,off2 + k * 3,none⟩ = some (.string nm):=(hdr.trans hx).cell C20.out;intro K hK;go_simp;exact hK _ _ (Ext.refl _) rfl
       case g12 =>
        intro v w1 hx (q5:v 5 = .string nm) (q11:v 11 = .string nm);intro bb hbb;subst hbb;refine ⟨_,fun w=>?_,rfl⟩;go_simp
       case g13 =>
        intro v w1 hx (q12:v 12 = .bool false);intro bb hbb;subst hbb;refine ⟨_,fun w=>?_,rfl⟩;go_simp
       case g14 =>
        intro v w1 hx (q13:v 13 = .bool false);intro bb hbb;refine Flow.Q0g (d:=71) rfl rfl (by rw [hbb]; simp only [size_put]; exact (by decide:71 < 153)) (by rw [hbb]; dsimp only; (try simp (discharger:=decide) only [eval_put_ne]); rw [Q0a (by simp only [size_put]; exact (by decide:71 < 153))]; exact q13) ?_
        subst hbb;refine ⟨_,fun w=>?_,rfl⟩;go_simp
       case g15 =>
        intro v w1 hx (q13:v 13 = .bool false) (q14:v 14 = .pointer (some ⟨w.heap.size,1,none⟩));intro bb hbb;have n0:w1.cell? ⟨w.heap.size,1,none⟩ = some (.slice (some ⟨b1,off1,none⟩) t.causes.length capb):=(HK0.out.ext (hdr.trans hx)).cell 1;refine Flow.Q0g (d:=71) rfl rfl (by rw [hbb]; simp only [size_put]; exact (by decide:71 < 153)) (by rw [hbb]; dsimp only; (try simp (discharger:=decide) only [eval_put_ne]); rw [Q0a (by simp only [size_put]; exact (by decide:71 < 153))]; exact q13) ?_
        subst hbb;intro K hK;go_simp;exact hK _ _ (Ext.refl _) rfl
       case g16 =>
        intro v w1 hx (q13:v 13 = .bool false);intro bb hbb;refine Flow.Q0g (d:=71) rfl rfl (by rw [hbb]; simp only [size_put]; exact (by decide:71 < 153)) (by rw [hbb]; dsimp only; (try simp (discharger:=decide) only [eval_put_ne]); rw [Q0a (by simp only [size_put]; exact (by decide:71 < 153))]; exact q13) ?_
        subst hbb;refine ⟨_,fun w=>?_,rfl⟩;go_simp
       case g17 =>
        intro v w1 hx (q13:v 13 = .bool false) (q15:v 15 = .slice (some ⟨b1,off1,none⟩) t.causes.length capb) (q16:v 16 = .int .i64 k);intro bb hbb;refine Flow.Q0g (d:=71) rfl rfl (by rw [hbb]; simp only [size_put]; exact (by decide:71 < 153)) (by rw [hbb]; dsimp only; (try simp (discharger:=decide) only [eval_put_ne]); rw [Q0a (by simp only [size_put]; exact (by decide:71 < 153))]; exact q13) ?_
        subst hbb;refine ⟨_,fun w=>?_,rfl⟩;go_simp
       case g18 =>
        intro v w1 hx (q13:v 13 = .bool false) (q17:v 17 = .pointer (some ⟨b1,off1 + k * 3,none⟩));intro bb hbb;refine Flow.Q0g (d:=71) rfl rfl (by rw [hbb]; simp only [size_put]; exact (by decide:71 < 153)) (by rw [hbb]; dsimp only; (try simp (discharger:=decide) only [eval_put_ne]); rw [Q0a (by simp only [size_put]; exact (by decide:71 < 153))]; exact q13) ?_
        subst hbb;refine ⟨_,fun w=>?_,rfl⟩;go_simp
       case g19 =>
        intro v w1 hx (q13:v 13 = .bool false) (q18:v 18 = .pointer (some ⟨b1,off1 + k * 3 + 1,none⟩));intro bb hbb;have n0:w1.cell? ⟨b1,off1 + k * 3 + 1,none⟩ = some (.int .i64 ch):=(hdr.trans hx).cell C11.out;refine Flow.Q0g (d:=71) rfl rfl (by rw [hbb]; simp only [size_put]; exact (by decide:71 < 153)) (by rw [hbb]; dsimp only; (try simp (discharger:=decide) only [eval_put_ne]); rw [Q0a (by simp only [size_put]; exact (by decide:71 < 153))]; exact q13) ?_
        subst hbb;intro K hK;go_simp;exact hK _ _ (Ext.refl _) rfl
       case g20 =>
        intro v w1 hx (q13:v 13 = .bool false);intro bb hbb;refine Flow.Q0g (d:=71) rfl rfl (by rw [hbb]; simp only [size_put]; exact (by decide:71 < 153)) (by rw [hbb]; dsimp only; (try simp (discharger:=decide) only [eval_put_ne]); rw [Q0a (by simp only [size_put]; exact (by decide:71 < 153))]; exact q13) ?_
        subst hbb;refine ⟨_,fun w=>?_,rfl⟩;go_simp
       case g21 =>
        intro v w1 hx (q13:v 13 = .bool false) (q20:v 20 = .pointer (some ⟨w.heap.size + 1,1,none⟩));intro bb hbb;have n0:w1.cell? ⟨w.heap.size + 1,1,none⟩ = some (.slice (some ⟨b2,off2,none⟩) t.causes.length capb'):=(HK1.out.ext (hdr.trans hx)).cell 1;refine Flow.Q0g (d:=71) rfl rfl (by rw [hbb]; simp only [size_put]; exact (by decide:71 < 153)) (by rw [hbb]; dsimp only; (try simp (discharger:=decide) only [eval_put_ne]); rw [Q0a (by simp only [size_put]; exact (by decide:71 < 153))]; exact q13) ?_
        subst hbb;intro K hK;go_simp;exact hK _ _ (Ext.refl _) rfl
       case g22 =>
        intro v w1 hx (q13:v 13 = .bool false);intro bb hbb;refine Flow.Q0g (d:=71) rfl rfl (by rw [hbb]; simp only [size_put]; exact (by decide:71 < 153)) (by rw [hbb]; dsimp only; (try simp (discharger:=decide) only [eval_put_ne]); rw [Q0a (by simp only [size_put]; exact (by decide:71 < 153))]; exact q13) ?_
        subst hbb;refine ⟨_,fun w=>?_,rfl⟩;go_simp
       case g23 =>
        intro v w1 hx (q13:v 13 = .bool false) (q21:v 21 = .slice (some ⟨b2,off2,none⟩) t.causes.length capb') (q22:v 22 = .int .i64 k);intro bb hbb;refine Flow.Q0g (d:=71) rfl rfl (by rw [hbb]; simp only [size_put]; exact (by decide:71 < 153)) (by rw [hbb]; dsimp only; (try simp (discharger:=decide) only [eval_put_ne]); rw [Q0a (by simp only [size_put]; exact (by decide:71 < 153))]; exact q13) ?_
        subst hbb;refine ⟨_,fun w=>?_,rfl⟩;go_simp
       case g24 =>
        intro v w1 hx (q13:v 13 = .bool false) (q23:v 23 = .pointer (some ⟨b2,off2 + k * 3,none⟩));intro bb hbb;refine Flow.Q0g (d:=71) rfl rfl (by rw [hbb]; simp only [size_put]; exact (by decide:71 < 153)) (by rw [hbb]; dsimp only; (try simp (discharger:=decide) only [eval_put_ne]); rw [Q0a (by simp only [size_put]; exact (by decide:71 < 153))]; exact q13) ?_
        subst hbb;refine ⟨_,fun w=>?_,rfl⟩;go_simp
       case g25 =>
        intro v w1 hx (q13:v 13 = .bool false) (q24:v 24 = .pointer (some ⟨b2,off2 + k * 3 + 1,none⟩));intro bb hbb;have n0:w1.cell? ⟨b2,off2 + k * 3 + 1,none⟩ = some (.int .i64 ch):=(hdr.trans hx).cell C21.out;refine Flow.Q0g (d:=71) rfl rfl (by rw [hbb]; simp only [size_put]; exact (by decide:71 < 153)) (by rw [hbb]; dsimp only; (try simp (discharger:=decide) only [eval_put_ne]); rw [Q0a (by simp only [size_put]; exact (by decide:71 < 153))]; exact q13) ?_
        subst hbb;intro K hK;go_simp;exact hK _ _ (Ext.refl _) rfl
       case g26 =>
        intro v w1 hx (q13:v 13 = .bool false) (q19:v 19 = .int .i64 ch) (q25:v 25 = .int .i64 ch);intro bb hbb;refine Flow.Q0g (d:=71) rfl rfl (by rw [hbb]; simp only [size_put]; exact (by decide:71 < 153)) (by rw [hbb]; dsimp only; (try simp (discharger:=decide) only [eval_put_ne]); rw [Q0a (by simp only [size_put]; exact (by decide:71 < 153))]; exact q13) ?_
        subst hbb;refine ⟨_,fun w=>?_,rfl⟩;go_simp
       case g27 =>
        intro v w1 hx (q13:v 13 = .bool false) (q26:v 26 = .bool false);intro bb hbb;subst hbb;refine ⟨_,fun w=>?_,rfl⟩;go_simp
       case g28 =>
        intro v w1 hx (q13:v 13 = .bool false) (q27:v 27 = .bool false);intro bb hbb;subst hbb;refine ⟨_,fun w=>?_,rfl⟩;go_simp
       case g29 =>
        intro v w1 hx (q28:v 28 = .bool false);intro bb hbb;refine Flow.Q0g (d:=86) rfl rfl (by rw [hbb]; simp only [size_put]; exact (by decide:86 < 153)) (by rw [hbb]; dsimp only; (try simp (discharger:=decide) only [eval_put_ne]); rw [Q0a (by simp only [size_put]; exact (by decide:86 < 153))]; exact q28) ?_
        subst hbb;refine ⟨_,fun w=>?_,rfl⟩;go_simp
       case g30 =>
        intro v w1 hx (q28:v 28 = .bool false) (q29:v 29 = .pointer (some ⟨w.heap.size,1,none⟩));intro bb hbb;have n0:w1.cell? ⟨w.heap.size,1,none⟩ = some (.slice (some ⟨b1,off1,none⟩) t.causes.length capb):=(HK0.out.ext (hdr.trans hx)).cell 1;refine Flow.Q0g (d:=86) rfl rfl (by rw [hbb]; simp only [size_put]; exact (by decide:86 < 153)) (by rw [hbb]; dsimp only; (try simp (discharger:=decide) only [eval_put_ne]); rw [Q0a (by simp only [size_put]; exact (by decide:86 < 153))]; exact q28) ?_
        subst hbb;intro K hK;go_simp;exact hK _ _ (Ext.refl _) rfl
       case g31 =>
        intro v w1 hx (q28:v 28 = .bool false);intro bb hbb;refine Flow.Q0g (d:=86) rfl rfl (by rw [hbb]; simp only [size_put]; exact (by decide:86 < 153)) (by rw [hbb]; dsimp only; (try simp (discharger:=decide) only [eval_put_ne]); rw [Q0a (by simp only [size_put]; exact (by decide:86 < 153))]; exact q28) ?_
        subst hbb;refine ⟨_,fun w=>?_,rfl⟩;go_simp
       case g32 =>
        intro v w1 hx (q28:v 28 = .bool false) (q30:v 30 = .slice (some ⟨b1,off1,none⟩) t.causes.length capb) (q31:v 31 = .int .i64 k);intro bb hbb;refine Flow.Q0g (d:=86) rfl rfl (by rw [hbb]; simp only [size_put]; exact (by decide:86 < 153)) (by rw [hbb]; dsimp only; (try simp (discharger:=decide) only [eval_put_ne]); rw [Q0a (by simp only [size_put]; exact (by decide:86 < 153))]; exact q28) ?_
        subst hbb;refine ⟨_,fun w=>?_,rfl⟩;go_simp
       case g33 =>
        intro v w1 hx (q28:v 28 = .bool false) (q32:v 32 = .pointer (some ⟨b1,off1 + k * 3,none⟩));intro bb hbb;refine Flow.Q0g (d:=86) rfl rfl (by rw [hbb]; simp only [size_put]; exact (by decide:86 < 153)) (by rw [hbb]; dsimp only; (try simp (discharger:=decide) only [eval_put_ne]); rw [Q0a (by simp only [size_put]; exact (by decide:86 < 153))]; exact q28) ?_
        subst hbb;refine ⟨_,fun w=>?_,rfl⟩;go_simp
       case g34 =>
        intro v w1 hx (q28:v 28 = .bool false) (q33:v 33 = .pointer (some ⟨b1,off1 + k * 3 + 2,none⟩));intro bb hbb;have n0:w1.cell? ⟨b1,off1 + k * 3 + 2,none⟩ = some (.slice M1 ml.length cm1):=(hdr.trans hx).cell C12.out;refine Flow.Q0g (d:=86) rfl rfl (by rw [hbb]; simp only [size_put]; exact (by decide:86 < 153)) (by rw [hbb]; dsimp only; (try simp (discharger:=decide) only [eval_put_ne]); rw [Q0a (by simp only [size_put]; exact (by decide:86 < 153))]; exact q28) ?_
        subst hbb;intro K hK;go_simp;exact hK _ _ (Ext.refl _) rfl
       case g35 =>
        intro v w1 hx (q28:v 28 = .bool false);intro bb hbb;refine Flow.Q0g (d:=86) rfl rfl (by rw [hbb]; simp only [size_put]; exact (by decide:86 < 153)) (by rw [hbb]; dsimp only; (try simp (discharger:=decide) only [eval_put_ne]); rw [Q0a (by simp only [size_put]; exact (by decide:86 < 153))]; exact q28) ?_
        subst hbb;refine ⟨_,fun w=>?_,rfl⟩;go_simp
       case g36 =>
        intro v w1 hx (q28:v 28 = .bool false) (q35:v 35 = .pointer (some ⟨w.heap.size + 1,1,none⟩));intro bb hbb;have n0:w1.cell? ⟨w.heap.size + 1,1,none⟩ = some (.slice (some ⟨b2,off2,none⟩) t.causes.length capb'):=(HK1.out.ext (hdr.trans hx)).cell 1;refine Flow.Q0g (d:=86) rfl rfl (by rw [hbb]; simp only [size_put]; exact (by decide:86 < 153)) (by rw [hbb]; dsimp only; (try simp (discharger:=decide) only [eval_put_ne]); rw [Q0a (by simp only [size_put]; exact (by decide:86 < 153))]; exact q28) ?_
        subst hbb;intro K hK;go_simp;exact hK _ _ (Ext.refl _) rfl
       case g37 =>
        intro v w1 hx (q28:v 28 = .bool false);intro bb hbb;refine Flow.Q0g (d:=86) rfl rfl (by rw [hbb]; simp only [size_put]; exact (by decide:86 < 153)) (by rw [hbb]; dsimp only; (try simp (discharger:=decide) only [eval_put_ne]); rw [Q0a (by simp only [size_put]; exact (by decide:86 < 153))]; exact q28) ?_
        subst hbb;refine ⟨_,fun w=>?_,rfl⟩;go_simp
       case g38 =>
        intro v w1 hx (q28:v 28 = .bool false) (q36:v 36 = .slice (some ⟨b2,off2,none⟩) t.causes.length capb') (q37:v 37 = .int .i64 k);intro bb hbb;refine Flow.Q0g (d:=86) rfl rfl (by rw [hbb]; simp only [size_put]; exact (by decide:86 < 153)) (by rw [hbb]; dsimp only; (try simp (discharger:=decide) only [eval_put_ne]); rw [Q0a (by simp only [size_put]; exact (by decide:86 < 153))]; exact q28) ?_
        subst hbb;refine ⟨_,fun w=>?_,rfl⟩;go_simp
       case g39 =>
        intro v w1 hx (q28:v 28 = .bool false) (q38:v 38 = .pointer (some ⟨b2,off2 + k * 3,none⟩));intro bb hbb;refine Flow.Q0g (d:=86) rfl rfl (by rw [hbb]; simp only [size_put]; exact (by decide:86 < 153)) (by rw [hbb]; dsimp only; (try simp (discharger:=decide) only [eval_put_ne]); rw [Q0a (by simp only [size_put]; exact (by decide:86 < 153))]; exact q28) ?_
        subst hbb;refine ⟨_,fun w=>?_,rfl⟩;go_simp
       case g40 =>
        intro v w1 hx (q28:v 28 = .bool false) (q39:v 39 = .pointer (some ⟨b2,off2 + k * 3 + 2,none⟩));intro bb hbb;have n0:w1.cell? ⟨b2,off2 + k * 3 + 2,none⟩ = some (.slice M2 ml.length cm2):=(hdr.trans hx).cell C22.out;refine Flow.Q0g (d:=86) rfl rfl (by rw [hbb]; simp only [size_put]; exact (by decide:86 < 153)) (by rw [hbb]; dsimp only; (try simp (discharger:=decide) only [eval_put_ne]); rw [Q0a (by simp only [size_put]; exact (by decide:86 < 153))]; exact q28) ?_
        subst hbb;intro K hK;go_simp;exact hK _ _ (Ext.refl _) rfl
       case g41 =>
        intro v w1 hx (q28:v 28 = .bool false) (q34:v 34 = .slice M1 ml.length cm1) (q40:v 40 = .slice M2 ml.length cm2);intro bb hbb;refine Flow.Q0g (d:=86) rfl rfl (by rw [hbb]; simp only [size_put]; exact (by decide:86 < 153)) (by rw [hbb]; dsimp only; (try simp (discharger:=decide) only [eval_put_ne]); rw [Q0a (by simp only [size_put]; exact (by decide:86 < 153))]; exact q28) ?_
        subst hbb;intro K hK;go_simp;refine Q0e (HSI.out w1 (hdr.trans hx)) ?_;rintro e w2 ⟨rfl,hx2⟩;exact ⟨_,rfl,hK _ _ hx2 rfl⟩
       case g42 =>
        intro v w1 hx (q28:v 28 = .bool false) (q41:v 41 = .bool true);intro bb hbb;refine Flow.Q0g (d:=86) rfl rfl (by rw [hbb]; simp only [size_put]; exact (by decide:86 < 153)) (by rw [hbb]; dsimp only; (try simp (discharger:=decide) only [eval_put_ne]); rw [Q0a (by simp only [size_put]; exact (by decide:86 < 153))]; exact q28) ?_
        subst hbb;refine ⟨_,fun w=>?_,rfl⟩;go_simp
       case g43 =>
        intro v w1 hx (q28:v 28 = .bool false) (q42:v 42 = .bool false);intro bb hbb;subst hbb;refine ⟨_,fun w=>?_,rfl⟩;go_simp
       case post =>
        intro v w1 hx (q0:v 0 = .pointer (some ⟨w.heap.size,1,none⟩)) (q1:v 1 = .slice (some ⟨b1,off1,none⟩) t.causes.length capb) (q2:v 2 = .int .i64 k) (q3:v 3 = .pointer (some ⟨b1,off1 + k * 3,none⟩)) (q4:v 4 = .pointer (some ⟨b1,off1 + k * 3,none⟩)) (q5:v 5 = .string nm) (q6:v 6 = .pointer (some ⟨w.heap.size + 1,1,none⟩)) (q7:v 7 = .slice (some ⟨b2,off2,none⟩) t.causes.length capb') (q8:v 8 = .int .i64 k) (q9:v 9 = .pointer (some ⟨b2,off2 + k * 3,none⟩)) (q10:v 10 = .pointer (some ⟨b2,off2 + k * 3,none⟩)) (q11:v 11 = .string nm) (q12:v 12 = .bool false) (q13:v 13 = .bool false) (q14:v 14 = .pointer (some ⟨w.heap.size,1,none⟩)) (q15:v 15 = .slice (some ⟨b1,off1,none⟩) t.causes.length capb) (q16:v 16 = .int .i64 k) (q17:v 17 = .pointer (some ⟨b1,off1 + k * 3,none⟩)) (q18:v 18 = .pointer (some ⟨b1,off1 + k * 3 + 1,none⟩)) (q19:v 19 = .int .i64 ch) (q20:v 20 = .pointer (some ⟨w.heap.size + 1,1,none⟩)) (q21:v 21 = .slice (some ⟨b2,off2,none⟩) t.causes.length capb') (q22:v 22 = .int .i64 k) (q23:v 23 = .pointer (some ⟨b2,off2 + k * 3,none⟩)) (q24:v 24 = .pointer (some ⟨b2,off2 + k * 3 + 1,none⟩)) (q25:v 25 = .int .i64 ch) (q26:v 26 = .bool false) (q27:v 27 = .bool false) (q28:v 28 = .bool false) (q29:v 29 = .pointer (some ⟨w.heap.size,1,none⟩)) (q30:v 30 = .slice (some ⟨b1,off1,none⟩) t.causes.length capb) (q31:v 31 = .int .i64 k) (q32:v 32 = .pointer (some ⟨b1,off1 + k * 3,none⟩)) (q33:v 33 = .pointer (some ⟨b1,off1 + k * 3 + 2,none⟩)) (q34:v 34 = .slice M1 ml.length cm1) (q35:v 35 = .pointer (some ⟨w.heap.size + 1,1,none⟩)) (q36:v 36 = .slice (some ⟨b2,off2,none⟩) t.causes.length capb') (q37:v 37 = .int .i64 k) (q38:v 38 = .pointer (some ⟨b2,off2 + k * 3,none⟩)) (q39:v 39 = .pointer (some ⟨b2,off2 + k * 3 + 2,none⟩)) (q40:v 40 = .slice M2 ml.length cm2) (q41:v 41 = .bool true) (q42:v 42 = .bool false) (q43:v 43 = .bool false);simp only [Flow.All,Flow.acts,Act.put];go_simp;have HX9:=Lib.hid (HX.out.trans (hdr.trans hx));clear hx hdr q0 q1 q2 q3 q4 q5 q6 q7 q8 q9 q10 q11 q12 q13 q14 q15 q16 q17 q18 q19 q20 q21 q22 q23 q24 q25 q26 q27 q28 q29 q30 q31 q32 q33 q34 q35 q36 q37 q38 q39 q40 q41 q42 q43;go_wp2;go_roundw
        case rel=>exact ⟨k + 1,by omega,by go_num,HX9.out⟩
        case measure=>simp [intOf]; omega
     · go_wp2
       clear c0 c1 c2
       go_loopw [7] (fun i wr=>∃ k:Nat,k ≤ t.gates.length ∧ i = .int .i64 k ∧ Ext W wr) (fun i _=>t.gates.length - (intOf i).toNat)
       case atStart=>exact ⟨0,Nat.zero_le _,rfl,HX.out⟩
       case round =>
        obtain ⟨k,hk,rfl,hx⟩:=hrel;have HX:=Lib.hid hx;have c0:=(K0.out.ext hx).cell 0;have c1:=(K0.out.ext hx).cell 1;have c2:=(K0.out.ext hx).cell 2;simp only [List.getElem?_toArray,List.getElem?_cons_zero,List.getElem?_cons_succ] at c0 c1 c2
        by_cases hlt:k < t.gates.length
        · obtain ⟨_,_,he0,_,_,hcc⟩:=HU.out.gates.opened
          cases he0;obtain ⟨b1,off1,m1,rfl,_,e0,e1,e2,hM,_⟩:=hcc k hlt;obtain ⟨_,_,he1,_,_,hcd⟩:=HV.out.gates.opened;cases he1;obtain ⟨b2,off2,m2,rfl,_,f0,f1,f2,hN,_⟩:=hcd k hlt;obtain ⟨nm,hnm⟩:∃ x,Q2c t.gates k = x:=⟨_,rfl⟩;obtain ⟨ch,hch⟩:∃ x,Q2x t.gates k = x:=⟨_,rfl⟩;obtain ⟨ml,hml⟩:∃ x,Q0l t.gates k = x:=⟨_,rfl⟩;rw [hnm] at e0 f0;rw [hch] at e1 f1;rw [hml] at hM hN;obtain ⟨M1,cm1,rfl,_,_,_⟩:=hM.opened;obtain ⟨M2,cm2,rfl,_,_,_⟩:=hN.opened;have C10:=Lib.hid (hx.cell e0);have C11:=Lib.hid (hx.cell e1);have C12:=Lib.hid (hx.cell e2);have C20:=Lib.hid (hx.cell f0);have C21:=Lib.hid (hx.cell f1);have C22:=Lib.hid (hx.cell f2);have HM:=Lib.hid (hM.ext hx);have HN:=Lib.hid (hN.ext hx);have HSI:Hid (∀ w',Ext wr w' → Calls Tryz.prog 65 #[.slice M1 ml.length cm1,.slice M2 ml.length cm2] w' fun e w''=>e = .returned (.bool true) ∧ Ext w' w''):=by
           exact (fun w' h=>by
            have h1:=Q7l w' _ _ ml ml (HM.out.ext h) (HN.out.ext h);rw [decide_eq_true rfl] at h1;exact h1:∀ w',Ext wr w' → Calls Tryz.prog 65 #[.slice M1 ml.length cm1,.slice M2 ml.length cm2] w' fun e w''=>e = .returned (.bool true) ∧ Ext w' w'')
          have HK0:=Lib.hid (K0.out.ext hx);have HK1:=Lib.hid (K1.out.ext hx);have hkI:(k:Int) < t.gates.length:=by omega
          have hdr:=(Ext.refl wr).drew;clear e0 e1 e2 f0 f1 f2 hcc hcd hnm hch hml hM hN hx;go_wp2;refine Flow.Q3g [.plain,.world,.plain,.plain,.plain,.world,.plain,.world,.plain,.plain,.plain,.world,.plain,.plain,.plain,.world,.plain,.plain,.plain,.world,.plain,.world,.plain,.plain,.plain,.world,.plain,.plain,.plain,.plain,.world,.plain,.plain,.plain,.world,.plain,.world,.plain,.plain,.plain,.world,.world,.plain,.plain] [0,1,2,3,4,5,6,7,8,9,10,11,12,13,14,15,16,17,18,19,20,21,22,23,24,25,26,27,28,29,30,31,32,33,34,35,36,37,38,39,40,41,42,43] [[],[0],[],[1,2],[3],[4],[],[6],[],[7,8],[9],[10],[5,11],[12],[13],[13,14],[13],[13,15,16],[13,17],[13,18],[13],[13,20],[13],[13,21,22],[13,23],[13,24],[13,19,25],[13,26],[13,27],[28],[28,29],[28],[28,30,31],[28,32],[28,33],[28],[28,35],[28],[28,36,37],[28,38],[28,39],[28,34,40],[28,41],[28,42]]
           [.is 0 (fun v=>.pointer (some ⟨w.heap.size,2,none⟩)),.is 1 (fun v=>.slice (some ⟨b1,off1,none⟩) t.gates.length capg),.is 2 (fun v=>.int .i64 k),.is 3 (fun v=>.pointer (some ⟨b1,off1 + k * 3,none⟩)),.is 4 (fun v=>.pointer (some ⟨b1,off1 + k * 3,none⟩)),.is 5 (fun v=>.string nm),.is 6 (fun v=>.pointer (some ⟨w.heap.size + 1,2,none⟩)),.is 7 (fun v=>.slice (some ⟨b2,off2,none⟩) t.gates.length capg'),.is 8 (fun v=>.int .i64 k),.is 9 (fun v=>.pointer (some ⟨b2,off2 + k * 3,none⟩)),.is 10 (fun v=>.pointer (some ⟨b2,off2 + k * 3,none⟩)),.is 11 (fun v=>.string nm),.is 12 (fun v=>.bool false),.is 13 (fun v=>.bool false),.is 14 (fun v=>.pointer (some ⟨w.heap.size,2,none⟩)),.is 15 (fun v=>.slice (some ⟨b1,off1,none⟩) t.gates.length capg),.is 16 (fun v=>.int .i64 k),.is 17 (fun v=>.pointer (some ⟨b1,off1 + k * 3,none⟩)),.is 18 (fun v=>.pointer (some ⟨b1,off1 + k * 3 + 1,none⟩)),.is 19 (fun v=>.int .i64 ch),.is 20 (fun v=>.pointer (some ⟨w.heap.size + 1,2,none⟩)),.is 21 (fun v=>.slice (some ⟨b2,off2,none⟩) t.gates.length capg'),.is 22 (fun v=>.int .i64 k),.is 23 (fun v=>.pointer (some ⟨b2,off2 + k * 3,none⟩)),.is 24 (fun v=>.pointer (some ⟨b2,off2 + k * 3 + 1,none⟩)),.is 25 (fun v=>.int .i64 ch),.is 26 (fun v=>.bool false),.is 27 (fun v=>.bool false),.is 28 (fun v=>.bool false),.is 29 (fun v=>.pointer (some ⟨w.heap.size,2,none⟩)),.is 30 (fun v=>.slice (some ⟨b1,off1,none⟩) t.gates.length capg),.is 31 (fun v=>.int .i64 k),.is 32 (fun v=>.pointer (some ⟨b1,off1 + k * 3,none⟩)),.is 33 (fun v=>.pointer (some ⟨b1,off1 + k * 3 + 2,none⟩)),.is 34 (fun v=>.slice M1 ml.length cm1),.is 35 (fun v=>.pointer (some ⟨w.heap.size + 1,2,none⟩)),.is 36 (fun v=>.slice (some ⟨b2,off2,none⟩) t.gates.length capg'),.is 37 (fun v=>.int .i64 k),.is 38 (fun v=>.pointer (some ⟨b2,off2 + k * 3,none⟩)),.is 39 (fun v=>.pointer (some ⟨b2,off2 + k * 3 + 2,none⟩)),.is 40 (fun v=>.slice M2 ml.length cm2),.is 41 (fun v=>.bool true),.is 42 (fun v=>.bool false),.is 43 (fun v=>.bool false)]
           (by kernel_rfl) rfl (by kernel_rfl) ⟨?g0,?g1,?g2,?g3,?g4,?g5,?g6,?g7,?g8,?g9,?g10,?g11,?g12,?g13,?g14,?g15,?g16,?g17,?g18,?g19,?g20,?g21,?g22,?g23,?g24,?g25,?g26,?g27,?g28,?g29,?g30,?g31,?g32,?g33,?g34,?g35,?g36,?g37,?g38,?g39,?g40,?g41,?g42,?g43,trivial⟩ ?post
          case g0 =>
           intro v w1 hx;intro bb hbb;subst hbb;refine ⟨_,fun w=>?_,rfl⟩;go_simp
          case g1 =>
           intro v w1 hx (q0:v 0 = .pointer (some ⟨w.heap.size,2,none⟩));intro bb hbb;subst hbb;have n0:w1.cell? ⟨w.heap.size,2,none⟩ = some (.slice (some ⟨b1,off1,none⟩) t.gates.length capg):=(HK0.out.ext (hdr.trans hx)).cell 2;intro K hK;go_simp;exact hK _ _ (Ext.refl _) rfl
          case g2 =>
           intro v w1 hx;intro bb hbb;subst hbb;refine ⟨_,fun w=>?_,rfl⟩;go_simp
          case g3 =>
           intro v w1 hx (q1:v 1 = .slice (some ⟨b1,off1,none⟩) t.gates.length capg) (q2:v 2 = .int .i64 k);intro bb hbb;subst hbb;refine ⟨_,fun w=>?_,rfl⟩;go_simp
          case g4 =>
           intro v w1 hx (q3:v 3 = .pointer (some ⟨b1,off1 + k * 3,none⟩));intro bb hbb;subst hbb;refine ⟨_,fun w=>?_,rfl⟩;go_simp
          case g5 =>
           intro v w1 hx (q4:v 4 = .pointer (some ⟨b1,off1 + k * 3,none⟩));intro bb hbb;subst hbb;have n0:w1.cell? ⟨b1,off1 + k * 3,none⟩ = some (.string nm):=(hdr.trans hx).cell C10.out;intro K hK;go_simp;exact hK _ _ (Ext.refl _) rfl
          case g6 =>
           intro v w1 hx;intro bb hbb;subst hbb;refine ⟨_,fun w=>?_,rfl⟩;go_simp
          case g7 =>
           intro v w1 hx (q6:v 6 = .pointer (some ⟨w.heap.size + 1,2,none⟩));intro bb hbb;subst hbb;have n0:w1.cell? ⟨w.heap.size + 1,2,none⟩ = some (.slice (some ⟨b2,off2,none⟩) t.gates.length capg'):=(HK1.out.ext (hdr.trans hx)).cell 2;intro K hK;go_simp;exact hK _ _ (Ext.refl _) rfl
          case g8 =>
           intro v w1 hx;intro bb hbb;subst hbb;refine ⟨_,fun w=>?_,rfl⟩;go_simp
          case g9 =>
           intro v w1 hx (q7:v 7 = .slice (some ⟨b2,off2,none⟩) t.gates.length capg') (q8:v 8 = .int .i64 k);intro bb hbb;subst hbb;refine ⟨_,fun w=>?_,rfl⟩;go_simp
          case g10 =>
           intro v w1 hx (q9:v 9 = .pointer (some ⟨b2,off2 + k * 3,none⟩));intro bb hbb;subst hbb;refine ⟨_,fun w=>?_,rfl⟩;go_simp
          case g11 =>
           intro v w1 hx (q10:v 10 = .pointer (some ⟨b2,off2 + k * 3,none⟩));intro bb hbb;subst hbb;have n0:w1.cell? ⟨b2,off2 + k * 3,none⟩ = some (.string nm):=(hdr.trans hx).cell C20.out;intro K hK;go_simp;exact hK _ _ (Ext.refl _) rfl
          case g12 =>
           intro v w1 hx (q5:v 5 = .string nm) (q11:v 11 = .string nm);intro bb hbb;subst hbb;refine ⟨_,fun w=>?_,rfl⟩;go_simp
          case g13 =>
           intro v w1 hx (q12:v 12 = .bool false);intro bb hbb;subst hbb;refine ⟨_,fun w=>?_,rfl⟩;go_simp
          case g14 =>
           intro v w1 hx (q13:v 13 = .bool false);intro bb hbb;refine Flow.Q0g (d:=122) rfl rfl (by rw [hbb]; simp only [size_put]; exact (by decide:122 < 153)) (by rw [hbb]; dsimp only; (try simp (discharger:=decide) only [eval_put_ne]); rw [Q0a (by simp only [size_put]; exact (by decide:122 < 153))]; exact q13) ?_
           subst hbb;refine ⟨_,fun w=>?_,rfl⟩;go_simp
          case g15 =>
           intro v w1 hx (q13:v 13 = .bool false) (q14:v 14 = .pointer (some ⟨w.heap.size,2,none⟩));intro bb hbb;have n0:w1.cell? ⟨w.heap.size,2,none⟩ = some (.slice (some ⟨b1,off1,none⟩) t.gates.length capg):=(HK0.out.ext (hdr.trans hx)).cell 2;refine Flow.Q0g (d:=122) rfl rfl (by rw [hbb]; simp only [size_put]; exact (by decide:122 < 153)) (by rw [hbb]; dsimp only; (try simp (discharger:=decide) only [eval_put_ne]); rw [Q0a (by simp only [size_put]; exact (by decide:122 < 153))]; exact q13) ?_
           subst hbb;intro K hK;go_simp;exact hK _ _ (Ext.refl _) rfl
          case g16 =>
           intro v w1 hx (q13:v 13 = .bool false);intro bb hbb;refine Flow.Q0g (d:=122) rfl rfl (by rw [hbb]; simp only [size_put]; exact (by decide:122 < 153)) (by rw [hbb]; dsimp only; (try simp (discharger:=decide) only [eval_put_ne]); rw [Q0a (by simp only [size_put]; exact (by decide:122 < 153))]; exact q13) ?_
           subst hbb;refine ⟨_,fun w=>?_,rfl⟩;go_simp
          case g17 =>
           intro v w1 hx (q13:v 13 = .bool false) (q15:v 15 = .slice (some ⟨b1,off1,none⟩) t.gates.length capg) (q16:v 16 = .int .i64 k);intro bb hbb;refine Flow.Q0g (d:=122) rfl rfl (by rw [hbb]; simp only [size_put]; exact (by decide:122 < 153)) (by rw [hbb]; dsimp only; (try simp (discharger:=decide) only [eval_put_ne]); rw [Q0a (by simp only [size_put]; exact (by decide:122 < 153))]; exact q13) ?_
           subst hbb;refine ⟨_,fun w=>?_,rfl⟩;go_simp
          case g18 =>
           intro v w1 hx (q13:v 13 = .bool false) (q17:v 17 = .pointer (some ⟨b1,off1 + k * 3,none⟩));intro bb hbb;refine Flow.Q0g (d:=122) rfl rfl (by rw [hbb]; simp only [size_put]; exact (by decide:122 < 153)) (by rw [hbb]; dsimp only; (try simp (discharger:=decide) only [eval_put_ne]); rw [Q0a (by simp only [size_put]; exact (by decide:122 < 153))]; exact q13) ?_
           subst hbb;refine ⟨_,fun w=>?_,rfl⟩;go_simp
          case g19 =>
           intro v w1 hx (q13:v 13 = .bool false) (q18:v 18 = .pointer (some ⟨b1,off1 + k * 3 + 1,none⟩));intro bb hbb;have n0:w1.cell? ⟨b1,off1 + k * 3 + 1,none⟩ = some (.int .i64 ch):=(hdr.trans hx).cell C11.out;refine Flow.Q0g (d:=122) rfl rfl (by rw [hbb]; simp only [size_put]; exact (by decide:122 < 153)) (by rw [hbb]; dsimp only; (try simp (discharger:=decide) only [eval_put_ne]); rw [Q0a (by simp only [size_put]; exact (by decide:122 < 153))]; exact q13) ?_
           subst hbb;intro K hK;go_simp;exact hK _ _ (Ext.refl _) rfl
          case g20 =>
           intro v w1 hx (q13:v 13 = .bool false);intro bb hbb;refine Flow.Q0g (d:=122) rfl rfl (by rw [hbb]; simp only [size_put]; exact (by decide:122 < 153)) (by rw [hbb]; dsimp only; (try simp (discharger:=decide) only [eval_put_ne]); rw [Q0a (by simp only [size_put]; exact (by decide:122 < 153))]; exact q13) ?_
           subst hbb;refine ⟨_,fun w=>?_,rfl⟩;go_simp
          case g21 =>
           intro v w1 hx (q13:v 13 = .bool false) (q20:v 20 = .pointer (some ⟨w.heap.size + 1,2,none⟩));intro bb hbb;have n0:w1.cell? ⟨w.heap.size + 1,2,none⟩ = some (.slice (some ⟨b2,off2,none⟩) t.gates.length capg'):=(HK1.out.ext (hdr.trans hx)).cell 2;refine Flow.Q0g (d:=122) rfl rfl (by rw [hbb]; simp only [size_put]; exact (by decide:122 < 153)) (by rw [hbb]; dsimp only; (try simp (discharger:=decide) only [eval_put_ne]); rw [Q0a (by simp only [size_put]; exact (by decide:122 < 153))]; exact q13) ?_
           subst hbb;intro K hK;go_simp;exact hK _ _ (Ext.refl _) rfl
          case g22 =>
           intro v w1 hx (q13:v 13 = .bool false);intro bb hbb;refine Flow.Q0g (d:=122) rfl rfl (by rw [hbb]; simp only [size_put]; exact (by decide:122 < 153)) (by rw [hbb]; dsimp only; (try simp (discharger:=decide) only [eval_put_ne]); rw [Q0a (by simp only [size_put]; exact (by decide:122 < 153))]; exact q13) ?_
           subst hbb;refine ⟨_,fun w=>?_,rfl⟩;go_simp
          case g23 =>
           intro v w1 hx (q13:v 13 = .bool false) (q21:v 21 = .slice (some ⟨b2,off2,none⟩) t.gates.length capg') (q22:v 22 = .int .i64 k);intro bb hbb;refine Flow.Q0g (d:=122) rfl rfl (by rw [hbb]; simp only [size_put]; exact (by decide:122 < 153)) (by rw [hbb]; dsimp only; (try simp (discharger:=decide) only [eval_put_ne]); rw [Q0a (by simp only [size_put]; exact (by decide:122 < 153))]; exact q13) ?_
           subst hbb;refine ⟨_,fun w=>?_,rfl⟩;go_simp
          case g24 =>
           intro v w1 hx (q13:v 13 = .bool false) (q23:v 23 = .pointer (some ⟨b2,off2 + k * 3,none⟩));intro bb hbb;refine Flow.Q0g (d:=122) rfl rfl (by rw [hbb]; simp only [size_put]; exact (by decide:122 < 153)) (by rw [hbb]; dsimp only; (try simp (discharger:=decide) only [eval_put_ne]); rw [Q0a (by simp only [size_put]; exact (by decide:122 < 153))]; exact q13) ?_
           subst hbb;refine ⟨_,fun w=>?_,rfl⟩;go_simp
          case g25 =>
           intro v w1 hx (q13:v 13 = .bool false) (q24:v 24 = .pointer (some ⟨b2,off2 + k * 3 + 1,none⟩));intro bb hbb;have n0:w1.cell? ⟨b2,off2 + k * 3 + 1,none⟩ = some (.int .i64 ch):=(hdr.trans hx).cell C21.out;refine Flow.Q0g (d:=122) rfl rfl (by rw [hbb]; simp only [size_put]; exact (by decide:122 < 153)) (by rw [hbb]; dsimp only; (try simp (discharger:=decide) only [eval_put_ne]); rw [Q0a (by simp only [size_put]; exact (by decide:122 < 153))]; exact q13) ?_
           subst hbb;intro K hK;go_simp;exact hK _ _ (Ext.refl _) rfl
          case g26 =>
           intro v w1 hx (q13:v 13 = .bool false) (q19:v 19 = .int .i64 ch) (q25:v 25 = .int .i64 ch);intro bb hbb;refine Flow.Q0g (d:=122) rfl rfl (by rw [hbb]; simp only [size_put]; exact (by decide:122 < 153)) (by rw [hbb]; dsimp only; (try simp (discharger:=decide) only [eval_put_ne]); rw [Q0a (by simp only [size_put]; exact (by decide:122 < 153))]; exact q13) ?_
           subst hbb;refine ⟨_,fun w=>?_,rfl⟩;go_simp
          case g27 =>
           intro v w1 hx (q13:v 13 = .bool false) (q26:v 26 = .bool false);intro bb hbb;subst hbb;refine ⟨_,fun w=>?_,rfl⟩;go_simp
          case g28 =>
           intro v w1 hx (q13:v 13 = .bool false) (q27:v 27 = .bool false);intro bb hbb;subst hbb;refine ⟨_,fun w=>?_,rfl⟩;go_simp
          case g29 =>
           intro v w1 hx (q28:v 28 = .bool false);intro bb hbb;refine Flow.Q0g (d:=137) rfl rfl (by rw [hbb]; simp only [size_put]; exact (by decide:137 < 153)) (by rw [hbb]; dsimp only; (try simp (discharger:=decide) only [eval_put_ne]); rw [Q0a (by simp only [size_put]; exact (by decide:137 < 153))]; exact q28) ?_
           subst hbb;refine ⟨_,fun w=>?_,rfl⟩;go_simp
          case g30 =>
           intro v w1 hx (q28:v 28 = .bool false) (q29:v 29 = .pointer (some ⟨w.heap.size,2,none⟩));intro bb hbb;have n0:w1.cell? ⟨w.heap.size,2,none⟩ = some (.slice (some ⟨b1,off1,none⟩) t.gates.length capg):=(HK0.out.ext (hdr.trans hx)).cell 2;refine Flow.Q0g (d:=137) rfl rfl (by rw [hbb]; simp only [size_put]; exact (by decide:137 < 153)) (by rw [hbb]; dsimp only; (try simp (discharger:=decide) only [eval_put_ne]); rw [Q0a (by simp only [size_put]; exact (by decide:137 < 153))]; exact q28) ?_
           subst hbb;intro K hK;go_simp;exact hK _ _ (Ext.refl _) rfl
          case g31 =>
           intro v w1 hx (q28:v 28 = .bool false);intro bb hbb;refine Flow.Q0g (d:=137) rfl rfl (by rw [hbb]; simp only [size_put]; exact (by decide:137 < 153)) (by rw [hbb]; dsimp only; (try simp (discharger:=decide) only [eval_put_ne]); rw [Q0a (by simp only [size_put]; exact (by decide:137 < 153))]; exact q28) ?_
           subst hbb;refine ⟨_,fun w=>?_,rfl⟩;go_simp
          case g32 =>
           intro v w1 hx (q28:v 28 = .bool false) (q30:v 30 = .slice (some ⟨b1,off1,none⟩) t.gates.length capg) (q31:v 31 = .int .i64 k);intro bb hbb;refine Flow.Q0g (d:=137) rfl rfl (by rw [hbb]; simp only [size_put]; exact (by decide:137 < 153)) (by rw [hbb]; dsimp only; (try simp (discharger:=decide) only [eval_put_ne]); rw [Q0a (by simp only [size_put]; exact (by decide:137 < 153))]; exact q28) ?_
           subst hbb;refine ⟨_,fun w=>?_,rfl⟩;go_simp
          case g33 =>
           intro v w1 hx (q28:v 28 = .bool false) (q32:v 32 = .pointer (some ⟨b1,off1 + k * 3,none⟩));intro bb hbb;refine Flow.Q0g (d:=137) rfl rfl (by rw [hbb]; simp only [size_put]; exact (by decide:137 < 153)) (by rw [hbb]; dsimp only; (try simp (discharger:=decide) only [eval_put_ne]); rw [Q0a (by simp only [size_put]; exact (by decide:137 < 153))]; exact q28) ?_
           subst hbb;refine ⟨_,fun w=>?_,rfl⟩;go_simp
          case g34 =>
           intro v w1 hx (q28:v 28 = .bool false) (q33:v 33 = .pointer (some ⟨b1,off1 + k * 3 + 2,none⟩));intro bb hbb;have n0:w1.cell? ⟨b1,off1 + k * 3 + 2,none⟩ = some (.slice M1 ml.length cm1):=(hdr.trans hx).cell C12.out;refine Flow.Q0g (d:=137) rfl rfl (by rw [hbb]; simp only [size_put]; exact (by decide:137 < 153)) (by rw [hbb]; dsimp only; (try simp (discharger:=decide) only [eval_put_ne]); rw [Q0a (by simp only [size_put]; exact (by decide:137 < 153))]; exact q28) ?_
           subst hbb;intro K hK;go_simp;exact hK _ _ (Ext.refl _) rfl
          case g35 =>
           intro v w1 hx (q28:v 28 = .bool false);intro bb hbb;refine Flow.Q0g (d:=137) rfl rfl (by rw [hbb]; simp only [size_put]; exact (by decide:137 < 153)) (by rw [hbb]; dsimp only; (try simp (discharger:=decide) only [eval_put_ne]); rw [Q0a (by simp only [size_put]; exact (by decide:137 < 153))]; exact q28) ?_
           subst hbb;refine ⟨_,fun w=>?_,rfl⟩;go_simp
          case g36 =>
           intro v w1 hx (q28:v 28 = .bool false) (q35:v 35 = .pointer (some ⟨w.heap.size + 1,2,none⟩));intro bb hbb;have n0:w1.cell? ⟨w.heap.size + 1,2,none⟩ = some (.slice (some ⟨b2,off2,none⟩) t.gates.length capg'):=(HK1.out.ext (hdr.trans hx)).cell 2;refine Flow.Q0g (d:=137) rfl rfl (by rw [hbb]; simp only [size_put]; exact (by decide:137 < 153)) (by rw [hbb]; dsimp only; (try simp (discharger:=decide) only [eval_put_ne]); rw [Q0a (by simp only [size_put]; exact (by decide:137 < 153))]; exact q28) ?_
           subst hbb;intro K hK;go_simp;exact hK _ _ (Ext.refl _) rfl
          case g37 =>
           intro v w1 hx (q28:v 28 = .bool false);intro bb hbb;refine Flow.Q0g (d:=137) rfl rfl (by rw [hbb]; simp only [size_put]; exact (by decide:137 < 153)) (by rw [hbb]; dsimp only; (try simp (discharger:=decide) only [eval_put_ne]); rw [Q0a (by simp only [size_put]; exact (by decide:137 < 153))]; exact q28) ?_
           subst hbb;refine ⟨_,fun w=>?_,rfl⟩;go_simp
          case g38 =>
           intro v w1 hx (q28:v 28 = .bool false) (q36:v 36 = .slice (some ⟨b2,off2,none⟩) t.gates.length capg') (q37:v 37 = .int .i64 k);intro bb hbb;refine Flow.Q0g (d:=137) rfl rfl (by rw [hbb]; simp only [size_put]; exact (by decide:137 < 153)) (by rw [hbb]; dsimp only; (try simp (discharger:=decide) only [eval_put_ne]); rw [Q0a (by simp only [size_put]; exact (by decide:137 < 153))]; exact q28) ?_
           subst hbb;refine ⟨_,fun w=>?_,rfl⟩;go_simp
          case g39 =>
           intro v w1 hx (q28:v 28 = .bool false) (q38:v 38 = .pointer (some ⟨b2,off2 + k * 3,none⟩));intro bb hbb;refine Flow.Q0g (d:=137) rfl rfl (by rw [hbb]; simp only [size_put]; exact (by decide:137 < 153)) (by rw [hbb]; dsimp only; (try simp (discharger:=decide) only [eval_put_ne]); rw [Q0a (by simp only [size_put]; exact (by decide:137 < 153))]; exact q28) ?_
           subst hbb;refine ⟨_,fun w=>?_,rfl⟩;go_simp
          case g40 =>
           intro v w1 hx (q28:v 28 = .bool false) (q39:v 39 = .pointer (some ⟨b2,off2 + k * 3 + 2,none⟩));intro bb hbb;have n0:w1.cell? ⟨b2,off2 + k * 3 + 2,none⟩ = some (.slice M2 ml.length cm2):=(hdr.trans hx).cell C22.out;refine Flow.Q0g (d:=137) rfl rfl (by rw [hbb]; simp only [size_put]; exact (by decide:137 < 153)) (by rw [hbb]; dsimp only; (try simp (discharger:=decide) only [eval_put_ne]); rw [Q0a (by simp only [size_put]; exact (by decide:137 < 153))]; exact q28) ?_
           subst hbb;intro K hK;go_simp;exact hK _ _ (Ext.refl _) rfl
          case g41 =>
           intro v w1 hx (q28:v 28 = .bool false) (q34:v 34 = .slice M1 ml.length cm1) (q40:v 40 = .slice M2 ml.length cm2);intro bb hbb;refine Flow.Q0g (d:=137) rfl rfl (by rw [hbb]; simp only [size_put]; exact (by decide:137 < 153)) (by rw [hbb]; dsimp only; (try simp (discharger:=decide) only [eval_put_ne]); rw [Q0a (by simp only [size_put]; exact (by decide:137 < 153))]; exact q28) ?_
           subst hbb;intro K hK;go_simp;refine Q0e (HSI.out w1 (hdr.trans hx)) ?_;rintro e w2 ⟨rfl,hx2⟩;exact ⟨_,rfl,hK _ _ hx2 rfl⟩
          case g42 =>
           intro v w1 hx (q28:v 28 = .bool false) (q41:v 41 = .bool true);intro bb hbb;refine Flow.Q0g (d:=137) rfl rfl (by rw [hbb]; simp only [size_put]; exact (by decide:137 < 153)) (by rw [hbb]; dsimp only; (try simp (discharger:=decide) only [eval_put_ne]); rw [Q0a (by simp only [size_put]; exact (by decide:137 < 153))]; exact q28) ?_
           subst hbb;refine ⟨_,fun w=>?_,rfl⟩;go_simp
          case g43 =>
           intro v w1 hx (q28:v 28 = .bool false) (q42:v 42 = .bool false);intro bb hbb;subst hbb;refine ⟨_,fun w=>?_,rfl⟩;go_simp
          case post =>
           intro v w1 hx (q0:v 0 = .pointer (some ⟨w.heap.size,2,none⟩)) (q1:v 1 = .slice (some ⟨b1,off1,none⟩) t.gates.length capg) (q2:v 2 = .int .i64 k) (q3:v 3 = .pointer (some ⟨b1,off1 + k * 3,none⟩)) (q4:v 4 = .pointer (some ⟨b1,off1 + k * 3,none⟩)) (q5:v 5 = .string nm) (q6:v 6 = .pointer (some ⟨w.heap.size + 1,2,none⟩)) (q7:v 7 = .slice (some ⟨b2,off2,none⟩) t.gates.length capg') (q8:v 8 = .int .i64 k) (q9:v 9 = .pointer (some ⟨b2,off2 + k * 3,none⟩)) (q10:v 10 = .pointer (some ⟨b2,off2 + k * 3,none⟩)) (q11:v 11 = .string nm) (q12:v 12 = .bool false) (q13:v 13 = .bool false) (q14:v 14 = .pointer (some ⟨w.heap.size,2,none⟩)) (q15:v 15 = .slice (some ⟨b1,off1,none⟩) t.gates.length capg) (q16:v 16 = .int .i64 k) (q17:v 17 = .pointer (some ⟨b1,off1 + k * 3,none⟩)) (q18:v 18 = .pointer (some ⟨b1,off1 + k * 3 + 1,none⟩)) (q19:v 19 = .int .i64 ch) (q20:v 20 = .pointer (some ⟨w.heap.size + 1,2,none⟩)) (q21:v 21 = .slice (some ⟨b2,off2,none⟩) t.gates.length capg') (q22:v 22 = .int .i64 k) (q23:v 23 = .pointer (some ⟨b2,off2 + k * 3,none⟩)) (q24:v 24 = .pointer (some ⟨b2,off2 + k * 3 + 1,none⟩)) (q25:v 25 = .int .i64 ch) (q26:v 26 = .bool false) (q27:v 27 = .bool false) (q28:v 28 = .bool false) (q29:v 29 = .pointer (some ⟨w.heap.size,2,none⟩)) (q30:v 30 = .slice (some ⟨b1,off1,none⟩) t.gates.length capg) (q31:v 31 = .int .i64 k) (q32:v 32 = .pointer (some ⟨b1,off1 + k * 3,none⟩)) (q33:v 33 = .pointer (some ⟨b1,off1 + k * 3 + 2,none⟩)) (q34:v 34 = .slice M1 ml.length cm1) (q35:v 35 = .pointer (some ⟨w.heap.size + 1,2,none⟩)) (q36:v 36 = .slice (some ⟨b2,off2,none⟩) t.gates.length capg') (q37:v 37 = .int .i64 k) (q38:v 38 = .pointer (some ⟨b2,off2 + k * 3,none⟩)) (q39:v 39 = .pointer (some ⟨b2,off2 + k * 3 + 2,none⟩)) (q40:v 40 = .slice M2 ml.length cm2) (q41:v 41 = .bool true) (q42:v 42 = .bool false) (q43:v 43 = .bool false);simp only [Flow.All,Flow.acts,Act.put];go_simp;have HX9:=Lib.hid (HX.out.trans (hdr.trans hx));clear hx hdr q0 q1 q2 q3 q4 q5 q6 q7 q8 q9 q10 q11 q12 q13 q14 q15 q16 q17 q18 q19 q20 q21 q22 q23 q24 q25 q26 q27 q28 q29 q30 q31 q32 q33 q34 q35 q36 q37 q38 q39 q40 q41 q42 q43;go_wp2;go_roundw
           case rel=>exact ⟨k + 1,by omega,by go_num,HX9.out⟩
           case measure=>simp [intOf]; omega
        · go_wp2
          go_ret;exact ⟨rfl,HXW.out.trans HX.out⟩
end Go.Proofs
