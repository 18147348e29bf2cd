/- Contract of the reference: Same, of two values that read as one tree. -/
import Derived.Test.YtgopmebjbkdfgaaGreatDoorTx25
set_option maxRecDepth 1000000
set_option maxHeartbeats 64000000
set_option linter.unusedVariables false
set_option linter.unusedSimpArgs false
set_option linter.constructorNameAsVariable false
namespace Go.Proofs
open Go.RowKit Go.Tw Go.Flow
theorem Tryz.Z8j (w:World):(isAgg 48).run Tryz.prog w = .ok true w:=by kernel_rfl
theorem Tryz.Z5p (w:World):(sizeOf 48).run Tryz.prog w = .ok 2 w:=by kernel_rfl
theorem Tryz.Y8p:Tryz.prog.eqGuardType Tryz.prog.depth 48 = false:=by kernel_rfl
theorem Y7z (w:World) (s:ByteArray) (c:Int):(binOp .neq 48 (.agg #[.string s,.int .i64 c]) (.agg #[.string s,.int .i64 c])).run Tryz.prog w = .ok (.bool false) w:=by
 have u3:=Tryz.underlying3;have u9:=Tryz.underlying9;have a3:∀ w,(isAgg 3).run Tryz.prog w = .ok false w:=fun w=>by kernel_rfl
 have z3:∀ w,(sizeOf 3).run Tryz.prog w = .ok 1 w:=fun w=>by kernel_rfl
 have a9:∀ w,(isAgg 9).run Tryz.prog w = .ok false w:=fun w=>by kernel_rfl
 have z9:∀ w,(sizeOf 9).run Tryz.prog w = .ok 1 w:=fun w=>by kernel_rfl
 have hS:Tryz.prog.underlying 48 = some (.struct (Tryz.prog.fieldsOf 48)):=by kernel_rfl
 have hp:Tryz.prog.stoodInHeld 48 = false:=by kernel_rfl
 rw [run_neq_struct,show (10000:Nat) = 9999 + 1 from rfl,run_equalIn_agg w 9999 48 _ _ hS hp]
 simp only [Program.fieldsOf,Tryz.underlying48];go_simp
theorem Y1t {w:World} {o:Oper} {a:Act} (x y:Operand) {T2:TypeId} (hop:o.op = .binOp .neq 48 x y T2) {s:ByteArray} {c:Int} (hx:a.eval x = .agg #[.string s,.int .i64 c]) (hy:a.eval y = .agg #[.string s,.int .i64 c]):(execOp a.eval o).run Tryz.prog w = .ok (.value (.bool false)) w:=by
 unfold execOp;simp only [hop,hx,hy,Sem.run_bind,run_eqGuard_agg w .neq 48 x y _ _ Tryz.Y8p,Result.andThen_ok,Y7z,Sem.run_pure]
theorem Z9g {w:World} {g o:Nat} {x y:Value} (h0:w.cell? ⟨g,o,none⟩ = some x) (h1:w.cell? ⟨g,o + 1,none⟩ = some y):Part w g o #[x,y]:=by
 intro k hk
 match k,hk with
 | 0,_=>exact h0
 | 1,_=>exact h1
theorem Y8w (w:World) (u v:Value) (t:Tree) (hu:IsTree w u t) (hv:IsTree w v t) :
    Calls Tryz.prog 29 #[u,v] w fun e w'=>e = .returned (.bool true) /\ Ext w w':=by
 obtain ⟨a1,a2,a3,rfl,h3⟩:=hu;obtain ⟨A,capa,rfl,hl1,hcap1,_⟩:=h3.basics.opened;obtain ⟨B,capb,rfl,hl2,hcap2,_⟩:=h3.causes.opened;obtain ⟨G,capg,rfl,hl3,hcap3,_⟩:=h3.gates.opened;obtain ⟨e1,e2,e3,rfl,k3⟩:=hv;obtain ⟨A',capa',rfl,_,hcap1',_⟩:=k3.basics.opened;obtain ⟨B',capb',rfl,_,hcap2',_⟩:=k3.causes.opened;obtain ⟨G',capg',rfl,_,hcap3',_⟩:=k3.gates.opened;have HU:=Lib.hid h3;have HV:=Lib.hid k3;clear h3 k3;go_enter Tryz.func29,Tryz.ntmps29;go_wp2_with fail;change Code.wp _ _ _ _ ((w.alloc (.cells #[.slice A t.basics.length capa,.slice B t.causes.length capb,.slice G t.gates.length capg] 26)).alloc (.cells #[.slice A' t.basics.length capa',.slice B' t.causes.length capb',.slice G' t.gates.length capg'] 26));obtain ⟨W,hWW,k0,k1,HXW,eW⟩:=Q5l w 26 #[.slice A t.basics.length capa,.slice B t.causes.length capb,.slice G t.gates.length capg] 26 #[.slice A' t.basics.length capa',.slice B' t.causes.length capb',.slice G' t.gates.length capg'];rw [hWW];clear hWW;have K0:=Lib.hid k0;have K1:=Lib.hid k1;replace HU:=Lib.hid (HU.out.ext HXW.out);replace HV:=Lib.hid (HV.out.ext HXW.out);have c0:=k0.cell 0;have c1:=k0.cell 1;have c2:=k0.cell 2;have d0:=k1.cell 0;have d1:=k1.cell 1;have d2:=k1.cell 2;simp only [Go.Tw.gA,Go.Tw.gB,Go.Tw.gC] at c0 c1 c2 d0 d1 d2;clear k0 k1;go_wp2;clear c0 c1 c2 d0 d1 d2
 go_loopw [5] (fun i wr=>∃ k:Nat,k <= t.basics.length /\ i = .int .i64 k /\ Ext W wr) (fun i _=>t.basics.length - (intOf i).toNat)
 case atStart=>exact ⟨0,Nat.zero_le _,rfl,Ext.refl _⟩
 case round =>
  obtain ⟨k,hk,rfl,hx⟩:=hrel;have HX:=Lib.hid hx;have c0:=(K0.out.ext hx).cell 0;have c1:=(K0.out.ext hx).cell 1;have c2:=(K0.out.ext hx).cell 2;simp only [Go.Tw.gA,Go.Tw.gB,Go.Tw.gC] at c0 c1 c2
  by_cases hlt:k < t.basics.length
  . obtain ⟨_,_,he0,_,_,hcc⟩:=HU.out.basics.opened
    cases he0;obtain ⟨b1,off1,rfl,_,e0,e1,_⟩:=hcc k hlt;obtain ⟨_,_,he1,_,_,hcd⟩:=HV.out.basics.opened;cases he1;obtain ⟨b2,off2,rfl,_,f0,f1,_⟩:=hcd k hlt;obtain ⟨nm,hnm⟩:∃ x,bName t.basics k = x:=⟨_,rfl⟩;obtain ⟨ch,hch⟩:∃ x,Q1b t.basics k = x:=⟨_,rfl⟩;rw [hnm] at e0 f0;rw [hch] at e1 f1;have HP1:Hid (Part wr b1 (off1 + k * 2) #[.string nm,.int .i64 ch]):=Lib.hid (Z9g (hx.cell e0) (hx.cell e1));have HP2:Hid (Part wr b2 (off2 + k * 2) #[.string nm,.int .i64 ch]):=Lib.hid (Z9g (hx.cell f0) (hx.cell f1));have HK0:=Lib.hid (K0.out.ext hx);have HK1:=Lib.hid (K1.out.ext hx);have hkI:(k:Int) < t.basics.length:=by omega
    have hdr:=(Ext.refl wr).drew;clear e0 e1 f0 f1 hcc hcd hnm hch hx;go_wp2;refine Flow.Q2p [.p,.w,.p,.p,.w,.p,.w,.p,.p,.w,.p] [0,1,2,3,4,5,6,7,8,9,10] [[],[0],[],[1,2],[3],[],[5],[],[6,7],[8],[4,9]]
     [.c 0 (.pointer (some ⟨w.heap.size,0,none⟩)),.c 1 (.slice (some ⟨b1,off1,none⟩) t.basics.length capa),.c 2 (.int .i64 k),.c 3 (.pointer (some ⟨b1,off1 + k * 2,none⟩)),.c 4 (.agg #[.string nm,.int .i64 ch]),.c 5 (.pointer (some ⟨w.heap.size + 1,0,none⟩)),.c 6 (.slice (some ⟨b2,off2,none⟩) t.basics.length capa'),.c 7 (.int .i64 k),.c 8 (.pointer (some ⟨b2,off2 + k * 2,none⟩)),.c 9 (.agg #[.string nm,.int .i64 ch]),.c 10 (.bool false)]
     (by kernel_rfl) rfl (by kernel_rfl) ⟨?g0,?g1,?g2,?g3,?g4,?g5,?g6,?g7,?g8,?g9,?g10,trivial⟩ ?post
    case g0 | g2 | g5 | g7=>
     intro v w1 hx;intro bb hbb;subst hbb;refine ⟨_,fun w=>?_,rfl⟩;go_simp
    case g1 | g6=>
     intro v w1 hx;(repeat intro (zq:v _ = _));intro bb hbb;subst hbb;have n0:w1.cell? ⟨w.heap.size,0,none⟩ = some (.slice (some ⟨b1,off1,none⟩) t.basics.length capa):=(HK0.out.ext (hdr.trans hx)).cell 0;have n1:w1.cell? ⟨w.heap.size + 1,0,none⟩ = some (.slice (some ⟨b2,off2,none⟩) t.basics.length capa'):=(HK1.out.ext (hdr.trans hx)).cell 0;intro K hK;go_simp;exact hK _ _ (Ext.refl _) rfl
    case g3 | g8=>
     intro v w1 hx;(repeat intro (zq:v _ = _));intro bb hbb;subst hbb;refine ⟨_,fun w=>?_,rfl⟩;go_simp
    case g4=>
     intro v w1 hx;(repeat intro (zq:v _ = _));intro bb hbb;intro K2 hK2;have o1:bb.eval (.tmp 43) = .pointer (some ⟨b1,off1 + k * 2,none⟩):=by rw [hbb]; dsimp only; (try simp (discharger:=decide) only [eval_put_ne]); rw [Q0a (by simp only [size_put]; exact (by decide:43 < 153))]; assumption
     exact Q2q (.tmp 43) _ rfl Tryz.Z8j Tryz.Z5p o1 (HP1.out.ext (hdr.trans hx)) rfl (hK2 _ _ (Ext.refl _) rfl)
    case g9=>
     intro v w1 hx;(repeat intro (zq:v _ = _));intro bb hbb;intro K2 hK2;have o1:bb.eval (.tmp 48) = .pointer (some ⟨b2,off2 + k * 2,none⟩):=by rw [hbb]; dsimp only; (try simp (discharger:=decide) only [eval_put_ne]); rw [Q0a (by simp only [size_put]; exact (by decide:48 < 153))]; assumption
     exact Q2q (.tmp 48) _ rfl Tryz.Z8j Tryz.Z5p o1 (HP2.out.ext (hdr.trans hx)) rfl (hK2 _ _ (Ext.refl _) rfl)
    case g10=>
     intro v w1 hx;(repeat intro (zq:v _ = _));intro bb hbb;have o1:bb.eval (.tmp 44) = .agg #[.string nm,.int .i64 ch]:=by rw [hbb]; dsimp only; (try simp (discharger:=decide) only [eval_put_ne]); rw [Q0a (by simp only [size_put]; exact (by decide:44 < 153))]; assumption
     have o2:bb.eval (.tmp 49) = .agg #[.string nm,.int .i64 ch]:=by rw [hbb]; dsimp only; (try simp (discharger:=decide) only [eval_put_ne]); rw [Q0a (by simp only [size_put]; exact (by decide:49 < 153))]; assumption
     exact ⟨_,fun w=>Y1t (.tmp 44) (.tmp 49) rfl o1 o2,rfl⟩
    case post =>
     intro v w1 hx;(iterate 11 intro (zq:v _ = _));simp only [Flow.All,Flow.acts,Act.put];go_simp;have HX9:=Lib.hid (HX.out.trans (hdr.trans hx));clear hx hdr;(repeat clear zq);go_wp2;go_roundw
     case rel=>exact ⟨k + 1,by omega,by go_num,HX9.out⟩
     case measure=>simp [intOf]; omega
  . go_wp2
    clear c0 c1 c2
    go_loopw [6] (fun i wr=>∃ k:Nat,k <= t.causes.length /\ i = .int .i64 k /\ Ext W wr) (fun i _=>t.causes.length - (intOf i).toNat)
    case atStart=>exact ⟨0,Nat.zero_le _,rfl,HX.out⟩
    case round =>
     obtain ⟨k,hk,rfl,hx⟩:=hrel;have HX:=Lib.hid hx;have c0:=(K0.out.ext hx).cell 0;have c1:=(K0.out.ext hx).cell 1;have c2:=(K0.out.ext hx).cell 2;simp only [Go.Tw.gA,Go.Tw.gB,Go.Tw.gC] at c0 c1 c2
     by_cases hlt:k < t.causes.length
     . obtain ⟨_,_,he0,_,_,hcc⟩:=HU.out.causes.opened
       cases he0;obtain ⟨b1,off1,m1,rfl,_,e0,e1,e2,hM,_⟩:=hcc k hlt;obtain ⟨_,_,he1,_,_,hcd⟩:=HV.out.causes.opened;cases he1;obtain ⟨b2,off2,m2,rfl,_,f0,f1,f2,hN,_⟩:=hcd k hlt;obtain ⟨nm,hnm⟩:∃ x,cName t.causes k = x:=⟨_,rfl⟩;obtain ⟨ch,hch⟩:∃ x,Q1k t.causes k = x:=⟨_,rfl⟩;obtain ⟨ml,hml⟩:∃ x,Q0f t.causes k = x:=⟨_,rfl⟩;rw [hnm] at e0 f0;rw [hch] at e1 f1;rw [hml] at hM hN;obtain ⟨M1,cm1,rfl,_,_,_⟩:=hM.opened;obtain ⟨M2,cm2,rfl,_,_,_⟩:=hN.opened;have C10:=Lib.hid (hx.cell e0);have C11:=Lib.hid (hx.cell e1);have C12:=Lib.hid (hx.cell e2);have C20:=Lib.hid (hx.cell f0);have C21:=Lib.hid (hx.cell f1);have C22:=Lib.hid (hx.cell f2);have HM:=Lib.hid (hM.ext hx);have HN:=Lib.hid (hN.ext hx);have HSI:Hid (∀ w',Ext wr w' -> Calls Tryz.prog 42 #[.slice M1 ml.length cm1,.slice M2 ml.length cm2] w' fun e w''=>e = .returned (.bool true) /\ Ext w' w''):=by
        exact (fun w' h=>by
         have h1:=Q7b w' _ _ ml ml (HM.out.ext h) (HN.out.ext h);rw [decide_eq_true rfl] at h1;exact h1:∀ w',Ext wr w' -> Calls Tryz.prog 42 #[.slice M1 ml.length cm1,.slice M2 ml.length cm2] w' fun e w''=>e = .returned (.bool true) /\ Ext w' w'')
       have HK0:=Lib.hid (K0.out.ext hx);have HK1:=Lib.hid (K1.out.ext hx);have hkI:(k:Int) < t.causes.length:=by omega
       have hdr:=(Ext.refl wr).drew;clear e0 e1 e2 f0 f1 f2 hcc hcd hnm hch hml hM hN hx;go_wp2;refine Flow.Q2p [.p,.w,.p,.p,.p,.w,.p,.w,.p,.p,.p,.w,.p,.p,.p,.w,.p,.p,.p,.w,.p,.w,.p,.p,.p,.w,.p,.p,.p,.p,.w,.p,.p,.p,.w,.p,.w,.p,.p,.p,.w,.w,.p,.p] [0,1,2,3,4,5,6,7,8,9,10,11,12,13,14,15,16,17,18,19,20,21,22,23,24,25,26,27,28,29,30,31,32,33,34,35,36,37,38,39,40,41,42,43] [[],[0],[],[1,2],[3],[4],[],[6],[],[7,8],[9],[10],[5,11],[12],[13],[13,14],[13],[13,15,16],[13,17],[13,18],[13],[13,20],[13],[13,21,22],[13,23],[13,24],[13,19,25],[13,26],[13,27],[28],[28,29],[28],[28,30,31],[28,32],[28,33],[28],[28,35],[28],[28,36,37],[28,38],[28,39],[28,34,40],[28,41],[28,42]]
        [.c 0 (.pointer (some ⟨w.heap.size,1,none⟩)),.c 1 (.slice (some ⟨b1,off1,none⟩) t.causes.length capb),.c 2 (.int .i64 k),.c 3 (.pointer (some ⟨b1,off1 + k * 3,none⟩)),.c 4 (.pointer (some ⟨b1,off1 + k * 3,none⟩)),.c 5 (.string nm),.c 6 (.pointer (some ⟨w.heap.size + 1,1,none⟩)),.c 7 (.slice (some ⟨b2,off2,none⟩) t.causes.length capb'),.c 8 (.int .i64 k),.c 9 (.pointer (some ⟨b2,off2 + k * 3,none⟩)),.c 10 (.pointer (some ⟨b2,off2 + k * 3,none⟩)),.c 11 (.string nm),.c 12 (.bool false),.c 13 (.bool false),.c 14 (.pointer (some ⟨w.heap.size,1,none⟩)),.c 15 (.slice (some ⟨b1,off1,none⟩) t.causes.length capb),.c 16 (.int .i64 k),.c 17 (.pointer (some ⟨b1,off1 + k * 3,none⟩)),.c 18 (.pointer (some ⟨b1,off1 + k * 3 + 1,none⟩)),.c 19 (.int .i64 ch),.c 20 (.pointer (some ⟨w.heap.size + 1,1,none⟩)),.c 21 (.slice (some ⟨b2,off2,none⟩) t.causes.length capb'),.c 22 (.int .i64 k),.c 23 (.pointer (some ⟨b2,off2 + k * 3,none⟩)),.c 24 (.pointer (some ⟨b2,off2 + k * 3 + 1,none⟩)),.c 25 (.int .i64 ch),.c 26 (.bool false),.c 27 (.bool false),.c 28 (.bool false),.c 29 (.pointer (some ⟨w.heap.size,1,none⟩)),.c 30 (.slice (some ⟨b1,off1,none⟩) t.causes.length capb),.c 31 (.int .i64 k),.c 32 (.pointer (some ⟨b1,off1 + k * 3,none⟩)),.c 33 (.pointer (some ⟨b1,off1 + k * 3 + 2,none⟩)),.c 34 (.slice M1 ml.length cm1),.c 35 (.pointer (some ⟨w.heap.size + 1,1,none⟩)),.c 36 (.slice (some ⟨b2,off2,none⟩) t.causes.length capb'),.c 37 (.int .i64 k),.c 38 (.pointer (some ⟨b2,off2 + k * 3,none⟩)),.c 39 (.pointer (some ⟨b2,off2 + k * 3 + 2,none⟩)),.c 40 (.slice M2 ml.length cm2),.c 41 (.bool true),.c 42 (.bool false),.c 43 (.bool false)]
        (by kernel_rfl) rfl (by kernel_rfl) ⟨?g0,?g1,?g2,?g3,?g4,?g5,?g6,?g7,?g8,?g9,?g10,?g11,?g12,?g13,?g14,?g15,?g16,?g17,?g18,?g19,?g20,?g21,?g22,?g23,?g24,?g25,?g26,?g27,?g28,?g29,?g30,?g31,?g32,?g33,?g34,?g35,?g36,?g37,?g38,?g39,?g40,?g41,?g42,?g43,trivial⟩ ?post
       case g0 | g2 | g6 | g8=>
        intro v w1 hx;intro bb hbb;subst hbb;refine ⟨_,fun w=>?_,rfl⟩;go_simp
       case g1 | g5 | g7 | g11=>
        intro v w1 hx;(repeat intro (zq:v _ = _));intro bb hbb;subst hbb;have n0:w1.cell? ⟨w.heap.size,1,none⟩ = some (.slice (some ⟨b1,off1,none⟩) t.causes.length capb):=(HK0.out.ext (hdr.trans hx)).cell 1;have n1:w1.cell? ⟨b1,off1 + k * 3,none⟩ = some (.string nm):=(hdr.trans hx).cell C10.out;have n2:w1.cell? ⟨w.heap.size + 1,1,none⟩ = some (.slice (some ⟨b2,off2,none⟩) t.causes.length capb'):=(HK1.out.ext (hdr.trans hx)).cell 1;have n3:w1.cell? ⟨b2,off2 + k * 3,none⟩ = some (.string nm):=(hdr.trans hx).cell C20.out;intro K hK;go_simp;exact hK _ _ (Ext.refl _) rfl
       case g3 | g4 | g9 | g10 | g12 | g13 | g27 | g28 | g43=>
        intro v w1 hx;(repeat intro (zq:v _ = _));intro bb hbb;subst hbb;refine ⟨_,fun w=>?_,rfl⟩;go_simp
       case g14 | g16 | g17 | g18 | g20 | g22 | g23 | g24 | g26=>
        intro v w1 hx;(repeat intro (zq:v _ = _));intro bb hbb;refine Flow.Q0p (d:=71) rfl rfl (by rw [hbb]; simp only [size_put]; exact (by decide:71 < 153)) (by rw [hbb]; dsimp only; (try simp (discharger:=decide) only [eval_put_ne]); rw [Q0a (by simp only [size_put]; exact (by decide:71 < 153))]; assumption) ?_
        subst hbb;refine ⟨_,fun w=>?_,rfl⟩;go_simp
       case g15 | g19 | g21 | g25=>
        intro v w1 hx;(repeat intro (zq:v _ = _));intro bb hbb;refine Flow.Q0p (d:=71) rfl rfl (by rw [hbb]; simp only [size_put]; exact (by decide:71 < 153)) (by rw [hbb]; dsimp only; (try simp (discharger:=decide) only [eval_put_ne]); rw [Q0a (by simp only [size_put]; exact (by decide:71 < 153))]; assumption) ?_
        subst hbb;have n0:w1.cell? ⟨w.heap.size,1,none⟩ = some (.slice (some ⟨b1,off1,none⟩) t.causes.length capb):=(HK0.out.ext (hdr.trans hx)).cell 1;have n1:w1.cell? ⟨b1,off1 + k * 3 + 1,none⟩ = some (.int .i64 ch):=(hdr.trans hx).cell C11.out;have n2:w1.cell? ⟨w.heap.size + 1,1,none⟩ = some (.slice (some ⟨b2,off2,none⟩) t.causes.length capb'):=(HK1.out.ext (hdr.trans hx)).cell 1;have n3:w1.cell? ⟨b2,off2 + k * 3 + 1,none⟩ = some (.int .i64 ch):=(hdr.trans hx).cell C21.out;intro K hK;go_simp;exact hK _ _ (Ext.refl _) rfl
       case g29 | g31 | g32 | g33 | g35 | g37 | g38 | g39 | g42=>
        intro v w1 hx;(repeat intro (zq:v _ = _));intro bb hbb;refine Flow.Q0p (d:=86) rfl rfl (by rw [hbb]; simp only [size_put]; exact (by decide:86 < 153)) (by rw [hbb]; dsimp only; (try simp (discharger:=decide) only [eval_put_ne]); rw [Q0a (by simp only [size_put]; exact (by decide:86 < 153))]; assumption) ?_
        subst hbb;refine ⟨_,fun w=>?_,rfl⟩;go_simp
       case g30 | g34 | g36 | g40=>
        intro v w1 hx;(repeat intro (zq:v _ = _));intro bb hbb;refine Flow.Q0p (d:=86) rfl rfl (by rw [hbb]; simp only [size_put]; exact (by decide:86 < 153)) (by rw [hbb]; dsimp only; (try simp (discharger:=decide) only [eval_put_ne]); rw [Q0a (by simp only [size_put]; exact (by decide:86 < 153))]; assumption) ?_
        subst hbb;have n0:w1.cell? ⟨w.heap.size,1,none⟩ = some (.slice (some ⟨b1,off1,none⟩) t.causes.length capb):=(HK0.out.ext (hdr.trans hx)).cell 1;have n1:w1.cell? ⟨b1,off1 + k * 3 + 2,none⟩ = some (.slice M1 ml.length cm1):=(hdr.trans hx).cell C12.out;have n2:w1.cell? ⟨w.heap.size + 1,1,none⟩ = some (.slice (some ⟨b2,off2,none⟩) t.causes.length capb'):=(HK1.out.ext (hdr.trans hx)).cell 1;have n3:w1.cell? ⟨b2,off2 + k * 3 + 2,none⟩ = some (.slice M2 ml.length cm2):=(hdr.trans hx).cell C22.out;intro K hK;go_simp;exact hK _ _ (Ext.refl _) rfl
       case g41=>
        intro v w1 hx;(repeat intro (zq:v _ = _));intro bb hbb;refine Flow.Q0p (d:=86) rfl rfl (by rw [hbb]; simp only [size_put]; exact (by decide:86 < 153)) (by rw [hbb]; dsimp only; (try simp (discharger:=decide) only [eval_put_ne]); rw [Q0a (by simp only [size_put]; exact (by decide:86 < 153))]; assumption) ?_
        subst hbb;intro K hK;go_simp;refine Q0d (HSI.out w1 (hdr.trans hx)) ?_;rintro e w2 ⟨rfl,hx2⟩;exact ⟨_,rfl,hK _ _ hx2 rfl⟩
       case post =>
        intro v w1 hx;(iterate 44 intro (zq:v _ = _));simp only [Flow.All,Flow.acts,Act.put];go_simp;have HX9:=Lib.hid (HX.out.trans (hdr.trans hx));clear hx hdr;(repeat clear zq);go_wp2;go_roundw
        case rel=>exact ⟨k + 1,by omega,by go_num,HX9.out⟩
        case measure=>simp [intOf]; omega
     . go_wp2
       clear c0 c1 c2
       go_loopw [7] (fun i wr=>∃ k:Nat,k <= t.gates.length /\ i = .int .i64 k /\ Ext W wr) (fun i _=>t.gates.length - (intOf i).toNat)
       case atStart=>exact ⟨0,Nat.zero_le _,rfl,HX.out⟩
       case round =>
        obtain ⟨k,hk,rfl,hx⟩:=hrel;have HX:=Lib.hid hx;have c0:=(K0.out.ext hx).cell 0;have c1:=(K0.out.ext hx).cell 1;have c2:=(K0.out.ext hx).cell 2;simp only [Go.Tw.gA,Go.Tw.gB,Go.Tw.gC] at c0 c1 c2
        by_cases hlt:k < t.gates.length
        . obtain ⟨_,_,he0,_,_,hcc⟩:=HU.out.gates.opened
          cases he0;obtain ⟨b1,off1,m1,rfl,_,e0,e1,e2,hM,_⟩:=hcc k hlt;obtain ⟨_,_,he1,_,_,hcd⟩:=HV.out.gates.opened;cases he1;obtain ⟨b2,off2,m2,rfl,_,f0,f1,f2,hN,_⟩:=hcd k hlt;obtain ⟨nm,hnm⟩:∃ x,Q2f t.gates k = x:=⟨_,rfl⟩;obtain ⟨ch,hch⟩:∃ x,Q3e t.gates k = x:=⟨_,rfl⟩;obtain ⟨ml,hml⟩:∃ x,Q0m t.gates k = x:=⟨_,rfl⟩;rw [hnm] at e0 f0;rw [hch] at e1 f1;rw [hml] at hM hN;obtain ⟨M1,cm1,rfl,_,_,_⟩:=hM.opened;obtain ⟨M2,cm2,rfl,_,_,_⟩:=hN.opened;have C10:=Lib.hid (hx.cell e0);have C11:=Lib.hid (hx.cell e1);have C12:=Lib.hid (hx.cell e2);have C20:=Lib.hid (hx.cell f0);have C21:=Lib.hid (hx.cell f1);have C22:=Lib.hid (hx.cell f2);have HM:=Lib.hid (hM.ext hx);have HN:=Lib.hid (hN.ext hx);have HSI:Hid (∀ w',Ext wr w' -> Calls Tryz.prog 42 #[.slice M1 ml.length cm1,.slice M2 ml.length cm2] w' fun e w''=>e = .returned (.bool true) /\ Ext w' w''):=by
           exact (fun w' h=>by
            have h1:=Q7b w' _ _ ml ml (HM.out.ext h) (HN.out.ext h);rw [decide_eq_true rfl] at h1;exact h1:∀ w',Ext wr w' -> Calls Tryz.prog 42 #[.slice M1 ml.length cm1,.slice M2 ml.length cm2] w' fun e w''=>e = .returned (.bool true) /\ Ext w' w'')
          have HK0:=Lib.hid (K0.out.ext hx);have HK1:=Lib.hid (K1.out.ext hx);have hkI:(k:Int) < t.gates.length:=by omega
          have hdr:=(Ext.refl wr).drew;clear e0 e1 e2 f0 f1 f2 hcc hcd hnm hch hml hM hN hx;go_wp2;refine Flow.Q2p [.p,.w,.p,.p,.p,.w,.p,.w,.p,.p,.p,.w,.p,.p,.p,.w,.p,.p,.p,.w,.p,.w,.p,.p,.p,.w,.p,.p,.p,.p,.w,.p,.p,.p,.w,.p,.w,.p,.p,.p,.w,.w,.p,.p] [0,1,2,3,4,5,6,7,8,9,10,11,12,13,14,15,16,17,18,19,20,21,22,23,24,25,26,27,28,29,30,31,32,33,34,35,36,37,38,39,40,41,42,43] [[],[0],[],[1,2],[3],[4],[],[6],[],[7,8],[9],[10],[5,11],[12],[13],[13,14],[13],[13,15,16],[13,17],[13,18],[13],[13,20],[13],[13,21,22],[13,23],[13,24],[13,19,25],[13,26],[13,27],[28],[28,29],[28],[28,30,31],[28,32],[28,33],[28],[28,35],[28],[28,36,37],[28,38],[28,39],[28,34,40],[28,41],[28,42]]
           [.c 0 (.pointer (some ⟨w.heap.size,2,none⟩)),.c 1 (.slice (some ⟨b1,off1,none⟩) t.gates.length capg),.c 2 (.int .i64 k),.c 3 (.pointer (some ⟨b1,off1 + k * 3,none⟩)),.c 4 (.pointer (some ⟨b1,off1 + k * 3,none⟩)),.c 5 (.string nm),.c 6 (.pointer (some ⟨w.heap.size + 1,2,none⟩)),.c 7 (.slice (some ⟨b2,off2,none⟩) t.gates.length capg'),.c 8 (.int .i64 k),.c 9 (.pointer (some ⟨b2,off2 + k * 3,none⟩)),.c 10 (.pointer (some ⟨b2,off2 + k * 3,none⟩)),.c 11 (.string nm),.c 12 (.bool false),.c 13 (.bool false),.c 14 (.pointer (some ⟨w.heap.size,2,none⟩)),.c 15 (.slice (some ⟨b1,off1,none⟩) t.gates.length capg),.c 16 (.int .i64 k),.c 17 (.pointer (some ⟨b1,off1 + k * 3,none⟩)),.c 18 (.pointer (some ⟨b1,off1 + k * 3 + 1,none⟩)),.c 19 (.int .i64 ch),.c 20 (.pointer (some ⟨w.heap.size + 1,2,none⟩)),.c 21 (.slice (some ⟨b2,off2,none⟩) t.gates.length capg'),.c 22 (.int .i64 k),.c 23 (.pointer (some ⟨b2,off2 + k * 3,none⟩)),.c 24 (.pointer (some ⟨b2,off2 + k * 3 + 1,none⟩)),.c 25 (.int .i64 ch),.c 26 (.bool false),.c 27 (.bool false),.c 28 (.bool false),.c 29 (.pointer (some ⟨w.heap.size,2,none⟩)),.c 30 (.slice (some ⟨b1,off1,none⟩) t.gates.length capg),.c 31 (.int .i64 k),.c 32 (.pointer (some ⟨b1,off1 + k * 3,none⟩)),.c 33 (.pointer (some ⟨b1,off1 + k * 3 + 2,none⟩)),.c 34 (.slice M1 ml.length cm1),.c 35 (.pointer (some ⟨w.heap.size + 1,2,none⟩)),.c 36 (.slice (some ⟨b2,off2,none⟩) t.gates.length capg'),.c 37 (.int .i64 k),.c 38 (.pointer (some ⟨b2,off2 + k * 3,none⟩)),.c 39 (.pointer (some ⟨b2,off2 + k * 3 + 2,none⟩)),.c 40 (.slice M2 ml.length cm2),.c 41 (.bool true),.c 42 (.bool false),.c 43 (.bool false)]
           (by kernel_rfl) rfl (by kernel_rfl) ⟨?g0,?g1,?g2,?g3,?g4,?g5,?g6,?g7,?g8,?g9,?g10,?g11,?g12,?g13,?g14,?g15,?g16,?g17,?g18,?g19,?g20,?g21,?g22,?g23,?g24,?g25,?g26,?g27,?g28,?g29,?g30,?g31,?g32,?g33,?g34,?g35,?g36,?g37,?g38,?g39,?g40,?g41,?g42,?g43,trivial⟩ ?post
          case g0 | g2 | g6 | g8=>
           intro v w1 hx;intro bb hbb;subst hbb;refine ⟨_,fun w=>?_,rfl⟩;go_simp
          case g1 | g5 | g7 | g11=>
           intro v w1 hx;(repeat intro (zq:v _ = _));intro bb hbb;subst hbb;have n0:w1.cell? ⟨w.heap.size,2,none⟩ = some (.slice (some ⟨b1,off1,none⟩) t.gates.length capg):=(HK0.out.ext (hdr.trans hx)).cell 2;have n1:w1.cell? ⟨b1,off1 + k * 3,none⟩ = some (.string nm):=(hdr.trans hx).cell C10.out;have n2:w1.cell? ⟨w.heap.size + 1,2,none⟩ = some (.slice (some ⟨b2,off2,none⟩) t.gates.length capg'):=(HK1.out.ext (hdr.trans hx)).cell 2;have n3:w1.cell? ⟨b2,off2 + k * 3,none⟩ = some (.string nm):=(hdr.trans hx).cell C20.out;intro K hK;go_simp;exact hK _ _ (Ext.refl _) rfl
          case g3 | g4 | g9 | g10 | g12 | g13 | g27 | g28 | g43=>
           intro v w1 hx;(repeat intro (zq:v _ = _));intro bb hbb;subst hbb;refine ⟨_,fun w=>?_,rfl⟩;go_simp
          case g14 | g16 | g17 | g18 | g20 | g22 | g23 | g24 | g26=>
           intro v w1 hx;(repeat intro (zq:v _ = _));intro bb hbb;refine Flow.Q0p (d:=122) rfl rfl (by rw [hbb]; simp only [size_put]; exact (by decide:122 < 153)) (by rw [hbb]; dsimp only; (try simp (discharger:=decide) only [eval_put_ne]); rw [Q0a (by simp only [size_put]; exact (by decide:122 < 153))]; assumption) ?_
           subst hbb;refine ⟨_,fun w=>?_,rfl⟩;go_simp
          case g15 | g19 | g21 | g25=>
           intro v w1 hx;(repeat intro (zq:v _ = _));intro bb hbb;refine Flow.Q0p (d:=122) rfl rfl (by rw [hbb]; simp only [size_put]; exact (by decide:122 < 153)) (by rw [hbb]; dsimp only; (try simp (discharger:=decide) only [eval_put_ne]); rw [Q0a (by simp only [size_put]; exact (by decide:122 < 153))]; assumption) ?_
           subst hbb;have n0:w1.cell? ⟨w.heap.size,2,none⟩ = some (.slice (some ⟨b1,off1,none⟩) t.gates.length capg):=(HK0.out.ext (hdr.trans hx)).cell 2;have n1:w1.cell? ⟨b1,off1 + k * 3 + 1,none⟩ = some (.int .i64 ch):=(hdr.trans hx).cell C11.out;have n2:w1.cell? ⟨w.heap.size + 1,2,none⟩ = some (.slice (some ⟨b2,off2,none⟩) t.gates.length capg'):=(HK1.out.ext (hdr.trans hx)).cell 2;have n3:w1.cell? ⟨b2,off2 + k * 3 + 1,none⟩ = some (.int .i64 ch):=(hdr.trans hx).cell C21.out;intro K hK;go_simp;exact hK _ _ (Ext.refl _) rfl
          case g29 | g31 | g32 | g33 | g35 | g37 | g38 | g39 | g42=>
           intro v w1 hx;(repeat intro (zq:v _ = _));intro bb hbb;refine Flow.Q0p (d:=137) rfl rfl (by rw [hbb]; simp only [size_put]; exact (by decide:137 < 153)) (by rw [hbb]; dsimp only; (try simp (discharger:=decide) only [eval_put_ne]); rw [Q0a (by simp only [size_put]; exact (by decide:137 < 153))]; assumption) ?_
           subst hbb;refine ⟨_,fun w=>?_,rfl⟩;go_simp
          case g30 | g34 | g36 | g40=>
           intro v w1 hx;(repeat intro (zq:v _ = _));intro bb hbb;refine Flow.Q0p (d:=137) rfl rfl (by rw [hbb]; simp only [size_put]; exact (by decide:137 < 153)) (by rw [hbb]; dsimp only; (try simp (discharger:=decide) only [eval_put_ne]); rw [Q0a (by simp only [size_put]; exact (by decide:137 < 153))]; assumption) ?_
           subst hbb;have n0:w1.cell? ⟨w.heap.size,2,none⟩ = some (.slice (some ⟨b1,off1,none⟩) t.gates.length capg):=(HK0.out.ext (hdr.trans hx)).cell 2;have n1:w1.cell? ⟨b1,off1 + k * 3 + 2,none⟩ = some (.slice M1 ml.length cm1):=(hdr.trans hx).cell C12.out;have n2:w1.cell? ⟨w.heap.size + 1,2,none⟩ = some (.slice (some ⟨b2,off2,none⟩) t.gates.length capg'):=(HK1.out.ext (hdr.trans hx)).cell 2;have n3:w1.cell? ⟨b2,off2 + k * 3 + 2,none⟩ = some (.slice M2 ml.length cm2):=(hdr.trans hx).cell C22.out;intro K hK;go_simp;exact hK _ _ (Ext.refl _) rfl
          case g41=>
           intro v w1 hx;(repeat intro (zq:v _ = _));intro bb hbb;refine Flow.Q0p (d:=137) rfl rfl (by rw [hbb]; simp only [size_put]; exact (by decide:137 < 153)) (by rw [hbb]; dsimp only; (try simp (discharger:=decide) only [eval_put_ne]); rw [Q0a (by simp only [size_put]; exact (by decide:137 < 153))]; assumption) ?_
           subst hbb;intro K hK;go_simp;refine Q0d (HSI.out w1 (hdr.trans hx)) ?_;rintro e w2 ⟨rfl,hx2⟩;exact ⟨_,rfl,hK _ _ hx2 rfl⟩
          case post =>
           intro v w1 hx;(iterate 44 intro (zq:v _ = _));simp only [Flow.All,Flow.acts,Act.put];go_simp;have HX9:=Lib.hid (HX.out.trans (hdr.trans hx));clear hx hdr;(repeat clear zq);go_wp2;go_roundw
           case rel=>exact ⟨k + 1,by omega,by go_num,HX9.out⟩
           case measure=>simp [intOf]; omega
        . go_wp2
          go_ret;exact ⟨rfl,HXW.out.trans HX.out⟩
end Go.Proofs
