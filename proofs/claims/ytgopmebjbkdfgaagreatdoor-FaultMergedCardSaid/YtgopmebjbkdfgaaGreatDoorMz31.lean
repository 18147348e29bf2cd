/- Contracts: slices.Grow of nil; slices.Concat of two lists (strings; basics). Contract: Merge's names. Contract of the reference: Dual. What is read of a result whatever becomes of the blocks of one type; what the law FaultChanges asks of the three trees. The part of a function's body from a region on: a great walk is cut into theorems there. Merged trees: what Merge comes to; the slices of triples that it makes, and what they read as. -/
import Derived.Test.YtgopmebjbkdfgaaGreatDoorMz29
import Derived.Test.YtgopmebjbkdfgaaGreatDoorMz22
import Derived.Test.YtgopmebjbkdfgaaGreatDoorMz27
import Derived.Test.YtgopmebjbkdfgaaGreatDoorMz30
import Derived.Lib.AppendZeros
import Derived.Test.YtgopmebjbkdfgaaGreatDoorMz23
import Derived.Test.YtgopmebjbkdfgaaGreatDoorMz24
import Derived.Test.YtgopmebjbkdfgaaGreatDoorMz01
set_option maxRecDepth 1000000
set_option maxHeartbeats 64000000
set_option linter.unusedVariables false
set_option linter.unusedSimpArgs false
set_option linter.constructorNameAsVariable false
namespace Go.Proofs
open Go.RowKit Go.Tw Go.Flow
theorem X3u (z:Array Value) (n:Nat):(Builtin.zeroCells z n).size = n * z.size:=by simp [Builtin.zeroCells]
theorem Y0v (w:World) (e:TypeId) (z:Array Value) (k n:Nat) (hz:z.size = k) (hn:n <= 100000) :
    (w.drew.alloc (.cells (Builtin.zeroCells z n ++ Builtin.zeroCells z (grownCap w n 0 e - n)) e)).ownsRow w.heap.size e k (.slice (some ⟨w.heap.size,0,none⟩) 0 (grownCap w n 0 e)) 0 []:=by
 have h1:=grownCap_ge w n 0 e;have h2:=grownCap_le_maxLen w n 0 e (by unfold maxLen; omega)
 refine ⟨by simp,.inr ⟨w.heap.size,grownCap w n 0 e,_,rfl,Nat.le_refl _,heap_alloc_new w.drew _,Nat.zero_le _,h2,?_,by simp⟩⟩
 rw [Array.size_append,X3u,X3u,hz,<- Nat.add_mul]
 congr 1
 omega
theorem Z6x (w:World) (n:Nat) (h0:0 < n) (hn:n <= 100000) :
    Calls Tryz.prog 107 #[.slice none 0 0,.int .i64 n] w fun e w'=>∃ b c,e = .returned (.slice b 0 c) /\ w'.ownsRow w.heap.size 9 1 (.slice b 0 c) 0 [] /\ Ext w w':=by
 obtain ⟨i0,hi,hz0,hz1,hz2⟩:=info_parts Tryz.X3b;have hrun:=Lib.run_append_nil_zeros (P:=Tryz.prog) w 72 3 72 9 i0 (.string emp) .i64 .i64 Tryz.underlying72 Tryz.underlying3 hi hz0 n h0 (by rw [hz1]; decide) (by omega) (by rw [hz2]; omega)
 have HR:=Lib.hid hrun;have HO:=Lib.hid (Y0v w 9 (.string emp:Value).cells 1 n rfl hn);have HX:Hid (Ext w (w.drew.alloc (.cells (Builtin.zeroCells (.string emp:Value).cells n ++ Builtin.zeroCells (.string emp:Value).cells (grownCap w n 0 9 - n)) 9))):=Lib.hid ((Ext.refl w).drew.alloc _);obtain ⟨gc,hgc⟩:∃ c,grownCap w n 0 9 = c:=⟨_,rfl⟩;rw [hgc] at HR HO HX;obtain ⟨wz,hwz⟩:∃ x,w.drew.alloc (.cells (Builtin.zeroCells (.string emp:Value).cells n ++ Builtin.zeroCells (.string emp:Value).cells (gc - n)) 9) = x:=⟨_,rfl⟩;rw [hwz] at HR HO HX;clear hrun hgc hwz hi hz0 hz1 hz2;have hnI:(0:Int) < n:=by omega
 have g1:¬ (n:Int) < 0:=by omega
 go_enter Tryz.func107,Tryz.ntmps107;go_wp2_with (at_builtin; refine Lib.wpList_append_run _ rfl _ _ _ _ rfl _ _ rfl rfl _ _ HR.out ?_);go_ret;exact ⟨_,_,rfl,HO.out,HX.out⟩
theorem Z8b (w:World) (n:Nat) (h0:0 < n) (hn:n <= 100000) :
    Calls Tryz.prog 109 #[.slice none 0 0,.int .i64 n] w fun e w'=>∃ b c,e = .returned (.slice b 0 c) /\ w'.ownsRow w.heap.size 103 2 (.slice b 0 c) 0 [] /\ Ext w w':=by
 obtain ⟨i0,hi,hz0,hz1,hz2⟩:=info_parts Tryz.Z9b;have hrun:=Lib.run_append_nil_zeros (P:=Tryz.prog) w 29 3 29 103 i0 (.agg #[.string emp,.int .i64 0]) .i64 .i64 Tryz.underlying29 Tryz.underlying3 hi hz0 n h0 (by rw [hz1]; decide) (by omega) (by rw [hz2]; omega)
 have HR:=Lib.hid hrun;have HO:=Lib.hid (Y0v w 103 (.agg #[.string emp,.int .i64 0]:Value).cells 2 n rfl hn);have HX:Hid (Ext w (w.drew.alloc (.cells (Builtin.zeroCells (.agg #[.string emp,.int .i64 0]:Value).cells n ++ Builtin.zeroCells (.agg #[.string emp,.int .i64 0]:Value).cells (grownCap w n 0 103 - n)) 103))):=Lib.hid ((Ext.refl w).drew.alloc _);obtain ⟨gc,hgc⟩:∃ c,grownCap w n 0 103 = c:=⟨_,rfl⟩;rw [hgc] at HR HO HX;obtain ⟨wz,hwz⟩:∃ x,w.drew.alloc (.cells (Builtin.zeroCells (.agg #[.string emp,.int .i64 0]:Value).cells n ++ Builtin.zeroCells (.agg #[.string emp,.int .i64 0]:Value).cells (gc - n)) 103) = x:=⟨_,rfl⟩;rw [hwz] at HR HO HX;clear hrun hgc hwz hi hz0 hz1 hz2;have hnI:(0:Int) < n:=by omega
 have g1:¬ (n:Int) < 0:=by omega
 go_enter Tryz.func109,Tryz.ntmps109;go_wp2_with (at_builtin; refine Lib.wpList_append_run _ rfl _ _ _ _ rfl _ _ rfl rfl _ _ HR.out ?_);go_ret;exact ⟨_,_,rfl,HO.out,HX.out⟩
theorem Q7g {P:Program} {w:World} {ops:Array Oper} {rest:List Oper} {o:Oper} {a:Act} {Q:Exit -> Act -> World -> Prop} (hg:o.guard = none)
    (h:gives P (fun u w'=>wpList P ops Q rest (a.put o.dst u) w') ((execOp a.eval o).run P w)):wpList P ops Q (o :: rest) a w :=
 wpList_plain hg fun K' hK'=>by
  unfold Oper.wp;exact Q7z (Q9u (fun _ _ hk=>hK' _ _ hk) h)
theorem Z1j {w:World} {v:Value} {l:List ByteArray} (h:Q2x w v l):Src w Value.string v l:=by
 obtain ⟨A,cap,rfl,_,_,hc⟩:=h.opened;refine ⟨A,cap,rfl,fun j hj=>?_⟩;obtain ⟨b,off,hA,hcell⟩:=hc j hj;exact ⟨b,off,hA,by rw [hcell,J1k hj]⟩
def X6r {α:Type} (l1 l2:List α) (k:Nat):List α:=if k = 0 then [] else if k = 1 then l1 else l1 ++ l2
theorem Q5i {α:Type} (l1 l2:List α):X6r l1 l2 1 = l1:=rfl
theorem Q7c {α:Type} (l1 l2:List α):X6r l1 l2 2 = l1 ++ l2:=rfl
theorem Y8i (w:World) (g:Nat) (TS:TypeId) (a b:Value) (l1 l2:List ByteArray) (hB:Blk w g TS #[a,b]) (ha:Q2x w a l1) (hb:Q2x w b l2) (h0:0 < l1.length) (hl:l1.length + l2.length <= 1000) :
    Calls Tryz.prog 52 #[.slice (some ⟨g,0,none⟩) 2 2] w fun e w'=>∃ x,e = .returned x /\ Q0t w' w.heap.size 9 .string x (l1 ++ l2) /\ Ext w w':=by
 have c0:=hB.cell 0;have c1:=hB.cell 1;simp only [Go.Tw.gA,Go.Tw.gB,Go.Tw.gC] at c0 c1;have HA:=Lib.hid ha;have HB:=Lib.hid hb;obtain ⟨A,ca,rfl,hl1,_,_⟩:=ha.opened;obtain ⟨B,cb,rfl,hl2,_,_⟩:=hb.opened;have HBB:=Lib.hid hB;clear ha hb hB;go_enter Tryz.func52,Tryz.ntmps52;go_wp2
 go_loopw [3,11] (fun n i wr=>∃ (k:Nat),k <= 2 /\ i = .int .i64 k /\ n = .int .i64 (((X6r l1 l2 k).length:Nat):Int) /\ wr = w) (fun _ i _=>2 - (intOf i).toNat)
 case atStart=>exact ⟨0,Nat.zero_le _,rfl,rfl,rfl⟩
 case round =>
  obtain ⟨k,hk,rfl,rfl,rfl⟩:=hrel;obtain rfl | rfl | rfl:k = 0 ∨ k = 1 ∨ k = 2:=by omega
  . have e0:(((X6r l1 l2 0).length:Nat):Int) = 0:=rfl
    rw [e0];go_wp2;go_roundw
    case rel=>exact ⟨1,by omega,rfl,by rw [Q5i]; try simp,trivial⟩
    case measure=>simp [intOf]
  . rw [Q5i]
    go_wp2;go_roundw
    case rel=>exact ⟨2,by omega,rfl,by rw [Q7c,List.length_append]; try go_num,trivial⟩
    case measure=>simp [intOf]
  . rw [Q7c,List.length_append]
    obtain ⟨W0,rfl⟩:∃ X,X = wr:=⟨_,rfl⟩;have e2:(((l1.length + l2.length:Nat)):Int) = (l1.length:Int) + l2.length:=by omega
    go_wp2_with fail;refine (Z6x _ (l1.length + l2.length) (by omega) (by omega)).mono ?_
    rintro e w1 ⟨bg,cg,rfl,hg,hx1⟩;have HG:Hid (Q0t w1 W0.heap.size 9 .string (.slice bg 0 cg) ([]:List ByteArray)):=Lib.hid hg;have HX1:=Lib.hid hx1;replace c0:=hx1.cell c0;replace c1:=hx1.cell c1;obtain ⟨i0,hi,hz0,hz1,hz2⟩:=info_parts Tryz.X3b;clear hg hx1 e2;go_wp2
    go_loopw [6,27] (fun o i wq=>∃ (k:Nat),k <= 2 /\ i = .int .i64 k /\ Q0t wq W0.heap.size 9 .string o (X6r l1 l2 k) /\ Ext W0 wq) (fun _ i _=>2 - (intOf i).toNat)
    case atStart=>exact ⟨0,Nat.zero_le _,rfl,HG.out,HX1.out⟩
    case round =>
     clear HG HX1 c0 c1;obtain ⟨k,hk,rfl,hown,hx⟩:=hrel;have HX:=Lib.hid hx;have HOW:=Lib.hid hown;have c0:=(HBB.out.ext hx).cell 0;have c1:=(HBB.out.ext hx).cell 1;simp only [Go.Tw.gA,Go.Tw.gB,Go.Tw.gC] at c0 c1;clear hown hx;obtain rfl | rfl | rfl:k = 0 ∨ k = 1 ∨ k = 2:=by omega
     . go_wp2_with (refine Q7g (o:=⟨some 33,_,_,_,_,_⟩) rfl ?_; refine Q7k (.tmp 31) (.tmp 32) 72 rfl W0.heap.size 9 i0 (.string emp) 16 Tryz.underlying72 hi hz0 hz1 hz2 rfl .string _ _ (X6r l1 l2 0) l1 rfl HOW.out rfl (Z1j (HA.out.ext HX.out)) (fun _ _=>rfl) (by first | (rw [Q5i]; omega) | (show 0 + _ <= _; omega)) (by decide) HX.out.size ?_; intro v' w9 hown' hgrow)
       have hx':Ext W0 w9:=Below.grown HX.out hgrow (by have:=HX.out.size; omega) (fun j hj=>(HOW.out.lt j hj).1)
       have HX':=Lib.hid hx';have HOW':=Lib.hid hown';clear hx' hown' hgrow;go_wp2;go_roundw
       case rel=>exact ⟨1,by omega,rfl,by rw [Q5i]; exact HOW'.out,HX'.out⟩
       case measure=>simp [intOf]
     . go_wp2_with (refine Q7g (o:=⟨some 33,_,_,_,_,_⟩) rfl ?_; refine Q7k (.tmp 31) (.tmp 32) 72 rfl W0.heap.size 9 i0 (.string emp) 16 Tryz.underlying72 hi hz0 hz1 hz2 rfl .string _ _ (X6r l1 l2 1) l2 rfl HOW.out rfl (Z1j (HB.out.ext HX.out)) (fun _ _=>rfl) (by first | (rw [Q5i]; omega) | (show 0 + _ <= _; omega)) (by decide) HX.out.size ?_; intro v' w9 hown' hgrow)
       have hx':Ext W0 w9:=Below.grown HX.out hgrow (by have:=HX.out.size; omega) (fun j hj=>(HOW.out.lt j hj).1)
       have HX':=Lib.hid hx';have HOW':=Lib.hid hown';clear hx' hown' hgrow;go_wp2;go_roundw
       case rel=>exact ⟨2,by omega,rfl,by rw [Q7c]; exact HOW'.out,HX'.out⟩
       case measure=>simp [intOf]
     . go_wp2
       go_ret;exact ⟨_,rfl,by rw [<- Q7c]; exact HOW.out,HX.out⟩
theorem X8s {w:World} {A:Option Addr} {n cap:Nat} {l:List Basic} (h:Q2l w (.slice A n cap) l):0 < l.length -> ∃ ad,A = some ad /\ ∀ j u,(l.flatMap Q9x)[j]? = some u -> w.cell? (ad.add j) = some u:=fun h0=>by
 obtain ⟨_,_,he,_,_,hc⟩:=h.opened;cases he;obtain ⟨b,off,hA,_⟩:=hc 0 h0;exact ⟨_,hA,Y5h h hA⟩
theorem Y7k (w:World) (g:Nat) (TS:TypeId) (a b:Value) (l1 l2:List Basic) (hB:Blk w g TS #[a,b]) (ha:Q2l w a l1) (hb:Q2l w b l2) (h0:0 < l1.length) (hl:l1.length + l2.length <= 1000) :
    Calls Tryz.prog 58 #[.slice (some ⟨g,0,none⟩) 2 2] w fun e w'=>∃ x,e = .returned x /\ Q1o w' w.heap.size 103 2 Q9x x (l1 ++ l2) /\ Ext w w':=by
 have c0:=hB.cell 0;have c1:=hB.cell 1;simp only [Go.Tw.gA,Go.Tw.gB,Go.Tw.gC] at c0 c1;have HA:=Lib.hid ha;have HB:=Lib.hid hb;obtain ⟨A,ca,rfl,hl1,_,_⟩:=ha.opened;obtain ⟨B,cb,rfl,hl2,_,_⟩:=hb.opened;have HBB:=Lib.hid hB;clear ha hb hB;go_enter Tryz.func58,Tryz.ntmps58;go_wp2
 go_loopw [3,11] (fun n i wr=>∃ (k:Nat),k <= 2 /\ i = .int .i64 k /\ n = .int .i64 (((X6r l1 l2 k).length:Nat):Int) /\ wr = w) (fun _ i _=>2 - (intOf i).toNat)
 case atStart=>exact ⟨0,Nat.zero_le _,rfl,rfl,rfl⟩
 case round =>
  obtain ⟨k,hk,rfl,rfl,rfl⟩:=hrel;obtain rfl | rfl | rfl:k = 0 ∨ k = 1 ∨ k = 2:=by omega
  . have e0:(((X6r l1 l2 0).length:Nat):Int) = 0:=rfl
    rw [e0];go_wp2;go_roundw
    case rel=>exact ⟨1,by omega,rfl,by rw [Q5i]; try simp,trivial⟩
    case measure=>simp [intOf]
  . rw [Q5i]
    go_wp2;go_roundw
    case rel=>exact ⟨2,by omega,rfl,by rw [Q7c,List.length_append]; try go_num,trivial⟩
    case measure=>simp [intOf]
  . rw [Q7c,List.length_append]
    obtain ⟨W0,rfl⟩:∃ X,X = wr:=⟨_,rfl⟩;have e2:(((l1.length + l2.length:Nat)):Int) = (l1.length:Int) + l2.length:=by omega
    go_wp2_with fail;refine (Z8b _ (l1.length + l2.length) (by omega) (by omega)).mono ?_
    rintro e w1 ⟨bg,cg,rfl,hg,hx1⟩;have HG:Hid (Q1o w1 W0.heap.size 103 2 Q9x (.slice bg 0 cg) ([]:List Basic)):=Lib.hid hg;have HX1:=Lib.hid hx1;replace c0:=hx1.cell c0;replace c1:=hx1.cell c1;obtain ⟨i0,hi,hz0,hz1,hz2⟩:=info_parts Tryz.Z9b;clear hg hx1 e2;go_wp2
    go_loopw [6,27] (fun o i wq=>∃ (k:Nat),k <= 2 /\ i = .int .i64 k /\ Q1o wq W0.heap.size 103 2 Q9x o (X6r l1 l2 k) /\ Ext W0 wq) (fun _ i _=>2 - (intOf i).toNat)
    case atStart=>exact ⟨0,Nat.zero_le _,rfl,HG.out,HX1.out⟩
    case round =>
     clear HG HX1 c0 c1;obtain ⟨k,hk,rfl,hown,hx⟩:=hrel;have HX:=Lib.hid hx;have HOW:=Lib.hid hown;have c0:=(HBB.out.ext hx).cell 0;have c1:=(HBB.out.ext hx).cell 1;simp only [Go.Tw.gA,Go.Tw.gB,Go.Tw.gC] at c0 c1;clear hown hx;obtain rfl | rfl | rfl:k = 0 ∨ k = 1 ∨ k = 2:=by omega
     . go_wp2_with (refine Q7g (o:=⟨some 33,_,_,_,_,_⟩) rfl ?_; refine Q9p (.tmp 31) (.tmp 32) 29 rfl W0.heap.size 103 i0 (.agg #[.string emp,.int .i64 0]) 2 24 Tryz.underlying29 hi hz0 hz1 hz2 rfl (by decide) Q9x Q7w _ (X6r l1 l2 0) l1 rfl HOW.out A ca rfl (X8s (HA.out.ext HX.out)) (Z1n l1) (by first | (rw [Q5i]; omega) | (show 0 + _ <= _; omega)) (by decide) HX.out.size ?_; intro v' w9 hown' hgrow)
       have hx':Ext W0 w9:=Below.grown HX.out hgrow (by have:=HX.out.size; omega) (fun j hj=>(HOW.out.lt j hj).1)
       have HX':=Lib.hid hx';have HOW':=Lib.hid hown';clear hx' hown' hgrow;go_wp2;go_roundw
       case rel=>exact ⟨1,by omega,rfl,by rw [Q5i]; exact HOW'.out,HX'.out⟩
       case measure=>simp [intOf]
     . go_wp2_with (refine Q7g (o:=⟨some 33,_,_,_,_,_⟩) rfl ?_; refine Q9p (.tmp 31) (.tmp 32) 29 rfl W0.heap.size 103 i0 (.agg #[.string emp,.int .i64 0]) 2 24 Tryz.underlying29 hi hz0 hz1 hz2 rfl (by decide) Q9x Q7w _ (X6r l1 l2 1) l2 rfl HOW.out B cb rfl (X8s (HB.out.ext HX.out)) (Z1n l2) (by first | (rw [Q5i]; omega) | (show 0 + _ <= _; omega)) (by decide) HX.out.size ?_; intro v' w9 hown' hgrow)
       have hx':Ext W0 w9:=Below.grown HX.out hgrow (by have:=HX.out.size; omega) (fun j hj=>(HOW.out.lt j hj).1)
       have HX':=Lib.hid hx';have HOW':=Lib.hid hown';clear hx' hown' hgrow;go_wp2;go_roundw
       case rel=>exact ⟨2,by omega,rfl,by rw [Q7c]; exact HOW'.out,HX'.out⟩
       case measure=>simp [intOf]
     . go_wp2
       go_ret;exact ⟨_,rfl,by rw [<- Q7c]; exact HOW.out,HX.out⟩
end Go.Proofs
namespace Go.Proofs
open Go.RowKit Go.Tw Go.Flow
theorem X7q {w:World} {base:Nat} {e:TypeId} {v:Value} {l:List ByteArray} (h:Q0t w base e Value.string v l) (hl:l.length <= 17592186043904):Q2x w v l :=
 h.rows hl (fun _ _=>rfl) (fun _ _ _ h h'=>h ▸ h')
def X0m (t:Tree):List ByteArray:=t.basics.map fun x=>x.name
def X0z (t:Tree):List ByteArray:=t.causes.map fun x=>x.name
def Q4q (t:Tree):List ByteArray:=X0m t ++ X0z t
theorem Z2w (t:Tree):(X0m t).length = t.basics.length:=List.length_map ..
theorem Z2x (t:Tree):(X0z t).length = t.causes.length:=List.length_map ..
theorem Y9l (w:World) (v:Value) (l:List Basic) (hv:Q2l w v l) (hle:l.length <= 1000) :
    Calls Tryz.prog 53 #[v,.func (.func 54) #[] #[]] w fun e w'=>∃ x,e = .returned x /\ Q2x w' x (l.map fun x=>x.name) /\ Ext w w' :=
 (Y5a w v l hv hle).mono fun _ _ ⟨x,h1,h2,h3⟩=>⟨x,h1,X7q h2 (by rw [List.length_map]; omega),h3⟩
theorem Y9r (w:World) (v:Value) (l:List Q6p) (hv:Q3i w v l) (hle:l.length <= 1000) :
    Calls Tryz.prog 55 #[v,.func (.func 56) #[] #[]] w fun e w'=>∃ x,e = .returned x /\ Q2x w' x (l.map fun x=>x.name) /\ Ext w w' :=
 (Y6g w v l hv hle).mono fun _ _ ⟨x,h1,h2,h3⟩=>⟨x,h1,X7q h2 (by rw [List.length_map]; omega),h3⟩
theorem Z2o (w:World) (g:Nat) (TS:TypeId) (a b:Value) (l1 l2:List ByteArray) (hB:Blk w g TS #[a,b]) (ha:Q2x w a l1) (hb:Q2x w b l2) (h0:0 < l1.length) (hl:l1.length + l2.length <= 1000) :
    Calls Tryz.prog 52 #[.slice (some ⟨g,0,none⟩) 2 2] w fun e w'=>∃ x,e = .returned x /\ Q2x w' x (l1 ++ l2) /\ Ext w w' :=
 (Y8i w g TS a b l1 l2 hB ha hb h0 hl).mono fun _ _ ⟨x,h1,h2,h3⟩=>⟨x,h1,X7q h2 (by rw [List.length_append]; omega),h3⟩
theorem Y5z (w:World) (v:Value) (t:Tree) (ht:IsTree w v t) (h1:0 < t.basics.length) (hn:t.basics.length + t.causes.length <= 1000) :
    Calls Tryz.prog 51 #[v] w fun e w'=>∃ x,e = .returned x /\ Q2x w' x (Q4q t) /\ Ext w w':=by
 obtain ⟨a,b,c,rfl,h3⟩:=ht;obtain ⟨A,capa,rfl,hl1,hcap1,_⟩:=h3.basics.opened;obtain ⟨B,capb,rfl,hl2,hcap2,_⟩:=h3.causes.opened;obtain ⟨G,capg,rfl,hl3,hcap3,_⟩:=h3.gates.opened;have HT0:=Lib.hid h3;clear h3;go_enter Tryz.func51,Tryz.ntmps51;go_upto_region 1 with fail;change Code.wp _ _ _ _ (w.alloc (.cells #[.slice A t.basics.length capa,.slice B t.causes.length capb,.slice G t.gates.length capg] 33));obtain ⟨W,hWW,k0,HXW,eW⟩:=Q3j w 33 #[.slice A t.basics.length capa,.slice B t.causes.length capb,.slice G t.gates.length capg];rw [hWW];clear hWW;have HT:=Lib.hid (HT0.out.ext HXW.out);have K0:=Lib.hid k0;have hdr:=(Ext.refl W).drew;have HL:Hid (0 < (X0m t).length /\ (X0m t).length + (X0z t).length <= 1000):=Lib.hid (by rw [Z2w,Z2x]; exact ⟨h1,hn⟩)
 clear k0;refine Flow.Q3o [.p,.w,.w,.p,.w,.w,.w,.w,.p] [0,1,2,3,4,5,6,7,8] [[],[0],[1],[],[3],[2,4],[2,5],[2,5,6],[0,1,2,3,4,5,6,7]]
  [.c 0 (.pointer (some ⟨w.heap.size,0,none⟩)),.c 1 (.slice A t.basics.length capa),⟨fun v wz=>Q2x wz (v 2) (X0m t),fun _ _ _ hx h=>h.ext hx⟩,.c 3 (.pointer (some ⟨w.heap.size,1,none⟩)),.c 4 (.slice B t.causes.length capb),⟨fun v wz=>Q2x wz (v 5) (X0z t),fun _ _ _ hx h=>h.ext hx⟩,⟨fun v wz=>(fun v w'=>∃ g,v 6 = .slice (some ⟨g,0,none⟩) 2 2 /\ Blk w' g 72 #[v 2,v 5]) v wz,by rintro v a b hx ⟨g,h1,h2⟩; exact ⟨g,h1,h2.ext hx⟩⟩,⟨fun v wz=>Q2x wz (v 7) ((X0m t) ++ X0z t),fun _ _ _ hx h=>h.ext hx⟩,.is 8 (fun v=>v 7)]
  (by kernel_rfl) rfl (by kernel_rfl) ⟨?g0,?g1,?g2,?g3,?g4,?g5,?g6,?g7,?g8,trivial⟩ ?post
 case g0 | g3=>
  intro v w1 hx;intro bb hbb;subst hbb;refine ⟨_,fun w=>?_,rfl⟩;go_simp
 case g1 | g4=>
  intro v w1 hx;(repeat intro (zq:v _ = _));intro bb hbb;subst hbb;have n0:w1.cell? ⟨w.heap.size,0,none⟩ = some (.slice A t.basics.length capa):=(K0.out.ext (hdr.trans hx)).cell 0;have n1:w1.cell? ⟨w.heap.size,1,none⟩ = some (.slice B t.causes.length capb):=(K0.out.ext (hdr.trans hx)).cell 1;intro K hK;go_simp;exact hK _ _ (Ext.refl _) rfl
 case g2=>
  intro v w1 hx;(repeat intro (zq:v _ = _));intro bb hbb;subst hbb;intro K hK;go_simp;refine Q0d (Y9l w1 _ t.basics (HT.out.basics.ext (hdr.trans hx)) (by omega)) ?_
  rintro e w2 ⟨x,rfl,h,hx2⟩;exact ⟨_,rfl,hK _ _ hx2 h⟩
 case g5=>
  intro v w1 hx _ (q4:v 4 = _);intro bb hbb;subst hbb;intro K hK;go_simp;refine Q0d (Y9r w1 _ t.causes (HT.out.causes.ext (hdr.trans hx)) (by omega)) ?_
  rintro e w2 ⟨x,rfl,h,hx2⟩;exact ⟨_,rfl,hK _ _ hx2 h⟩
 case g6=>
  intro v w1 hx (q2:Q2x w1 (v 2) (X0m t)) (q5:Q2x w1 (v 5) (X0z t));intro bb hbb;subst hbb;intro K hK;obtain ⟨A2,c2,e2,_⟩:=q2.opened;obtain ⟨A5,c5,e5,_⟩:=q5.opened;go_simp;exact hK _ _ (Ext.box _ _) ⟨_,rfl,by show Blk _ _ _ #[v 2,v 5]; rw [e2,e5]; exact Blk.made _ _ _⟩
 case g7=>
  intro v w1 hx (q2:Q2x w1 (v 2) (X0m t)) (q5:Q2x w1 (v 5) (X0z t)) (q6:(fun v w'=>∃ g,v 6 = .slice (some ⟨g,0,none⟩) 2 2 /\ Blk w' g 72 #[v 2,v 5]) v w1);intro bb hbb;subst hbb;intro K hK;obtain ⟨g,hg,hb⟩:=q6;go_simp;refine Q0d (Z2o w1 g _ _ _ _ _ hb q2 q5 HL.out.1 HL.out.2) ?_;rintro e w2 ⟨x,rfl,h,hx2⟩;exact ⟨_,rfl,hK _ _ hx2 h⟩
 case g8=>
  intro v w1 hx (q0:v 0 = _) (q1:v 1 = _) _ (q3:v 3 = _) (q4:v 4 = _) _ _ _;intro bb hbb;subst hbb;refine ⟨_,fun w=>?_,rfl⟩;go_simp
 case post =>
  intro v w1 hx;(iterate 2 intro (zq:v _ = _));intro (q2:Q2x w1 (v 2) (X0m t));(iterate 2 intro (zq:v _ = _));intro (q5:Q2x w1 (v 5) (X0z t)) (q6:(fun v w'=>∃ g,v 6 = .slice (some ⟨g,0,none⟩) 2 2 /\ Blk w' g 72 #[v 2,v 5]) v w1) (q7:Q2x w1 (v 7) ((X0m t) ++ X0z t)) (q8:v 8 = v 7);simp only [Flow.All,Flow.acts,Act.put];go_simp;go_wp2;go_ret;exact ⟨_,rfl,q7,HXW.out.trans (hdr.trans hx)⟩
end Go.Proofs
namespace Go.Proofs
open Go.RowKit Go.Tw Go.Flow
def part {α:Type} (f:α -> α) (l:List α) (k:Nat):List α:=(l.take k).map f ++ l.drop k
theorem Z0q {α:Type} (f:α -> α) (l:List α) (k:Nat):(part f l k).length = l.length:=by
 unfold part; simp only [List.length_append,List.length_map,List.length_take,List.length_drop]; omega
theorem J3d {α:Type} (f:α -> α) (l:List α) (k:Nat) (h:k < l.length) (h':k < (part f l k).length):(part f l k)[k] = l[k]:=by
 have h1:(part f l k)[k]? = l[k]?:=by
  have e:k - ((l.take k).map f).length = 0:=by simp; omega
  unfold part;rw [List.getElem?_append_right (by simp; omega),e,List.getElem?_drop,Nat.add_zero]
 rw [List.getElem?_eq_getElem h',List.getElem?_eq_getElem h] at h1;exact Option.some.inj h1
theorem Z5z {α:Type} (f:α -> α) (l:List α) (k:Nat) (h:k < l.length):(part f l k).set k (f l[k]) = part f l (k + 1):=by
 unfold part;rw [List.set_append_right _ _ (by simp; omega),List.take_add_one,List.getElem?_eq_getElem h,Option.toList_some,List.map_append,List.append_assoc,List.drop_eq_getElem_cons h]
 have e:k - ((l.take k).map f).length = 0:=by simp; omega
 rw [e];rfl
end Go.Proofs
namespace Go.Proofs
open Go.RowKit Go.Tw Go.Flow
def Keep (T:TypeId) (w w':World):Prop:=∀ b S cs,S ≠ T -> Blk w b S cs -> Blk w' b S cs
theorem Keep.trans {T:TypeId} {a b c:World} (h:Keep T a b) (k:Keep T b c):Keep T a c:=fun x S cs hS hb=>k x S cs hS (h x S cs hS hb)
theorem Keep.ext {T:TypeId} {w w':World} (h:Ext w w'):Keep T w w':=fun _ _ _ _ hb=>hb.ext h
theorem Keep.store {T:TypeId} {w w':World} {g:Nat} {cs:Array Value} (hb:Blk w g T cs) (ho:∀ k,k ≠ g -> w'.heap[k]? = w.heap[k]?):Keep T w w':=fun _ _ _ hS h=>h.only (Q2f h hb hS) ho
def Q7q (T:TypeId) (w:World) (v:Value) (t:Tree):Prop:=∀ w',Keep T w w' -> IsTree w' v t
theorem Q7q.keep {T:TypeId} {w w':World} {v:Value} {t:Tree} (h:Q7q T w v t) (k:Keep T w w'):Q7q T w' v t:=fun _ h'=>h _ (k.trans h')
theorem Q7q.ext {T:TypeId} {w w':World} {v:Value} {t:Tree} (h:Q7q T w v t) (k:Ext w w'):Q7q T w' v t:=h.keep (.ext k)
theorem Q7q.is {T:TypeId} {w:World} {v:Value} {t:Tree} (h:Q7q T w v t):IsTree w v t:=h _ (.ext (Ext.refl _))
theorem Q1k {α:Type} {T:TypeId} {w w':World} {base k:Nat} {e:TypeId} {enc:α -> List Value} {v:Value} {l:List α} (h:Q1o w base e k enc v l) (hT:e ≠ T) (hk:Keep T w w'):Q1o w' base e k enc v l:=by
 obtain ⟨h1,h2⟩:=h;refine ⟨h1,?_⟩
 rcases h2 with h2 | ⟨g,cap,cur,hv,hb,hg,r⟩
 . exact .inl h2
 . exact .inr ⟨g,cap,cur,hv,hb,hk g e cur hT hg,r⟩
theorem Q3x {T:TypeId} {w w':World} {v:Value} {l:List Int} (h:Q0t w 0 3 (.int .i64) v l) (hT:3 ≠ T) (hk:Keep T w w'):Q0t w' 0 3 (.int .i64) v l:=by
 obtain ⟨h1,h2⟩:=h;refine ⟨h1,?_⟩
 rcases h2 with h2 | ⟨g,cap,cur,hv,hb,hg,r⟩
 . exact .inl h2
 . exact .inr ⟨g,cap,cur,hv,hb,hk g _ cur hT hg,r⟩
theorem _root_.Go.Tw.IsTree.cells {w:World} {v:Value} {t:Tree} (h:IsTree w v t):∃ cs,v = .agg cs /\ cs.size = 3 /\ ∀ u ∈ cs.toList,u.oneCell' = true:=by
 obtain ⟨a,b,c,rfl,h3⟩:=h;obtain ⟨A,capa,rfl,_⟩:=h3.basics.opened;obtain ⟨B,capb,rfl,_⟩:=h3.causes.opened;obtain ⟨G,capg,rfl,_⟩:=h3.gates.opened;refine ⟨_,rfl,rfl,?_⟩;intro u hu;simp only [List.mem_cons,List.not_mem_nil,or_false] at hu
 rcases hu with rfl | rfl | rfl <;> rfl
theorem Q6w {P:Program} {o:Oper} {a:Act} (x:Operand) (i:Nat) (ho:o.op = .extract x i) {vs:Array Value} {u:Value} (hx:a.eval x = .tuple vs) (hv:vs[i]? = some u) (w:World):(execOp a.eval o).run P w = .ok (.value u) w:=by
 unfold execOp;simp only [ho,hx,Instr.extract,hv,Sem.run_bind,Sem.run_pure,Result.andThen_ok]
theorem X8b {P:Program} {o:Oper} {a:Act} (x:Operand) (ho:o.op = .move x) {u:Value} (hx:a.eval x = u) (w:World):(execOp a.eval o).run P w = .ok (.value u) w:=by
 unfold execOp;simp only [ho,hx,Sem.run_pure]
theorem Q8j {P:Program} {K:Value -> World -> Prop} {o:Oper} {a:Act} {w:World} (x:Operand) (ho:o.op = .assign x) {u:Value} (hx:a.eval x = u) (h:K u w):gives P K ((execOp a.eval o).run P w):=by
 unfold execOp;simp only [ho,hx,Sem.run_pure];exact h
end Go.Proofs
namespace Go.Tw
def J1y (k:Nat):Code -> Bool
 | .region n _ _=>Nat.beq n k
 | .seq a _=>J1y k a
 | _=>false
def J1o (k:Nat):Code -> Option Code
 | .seq a b=>if J1y k a = true then some (.seq a b) else J1o k b
 | _=>none
noncomputable def codeFrom (fn:Func) (k:Nat):Code:=((fn.body.bind (J1o k)).getD .skip)
end Go.Tw
namespace Go.Proofs
open Go.RowKit Go.Tw Go.Flow
def Q3m (na nb:Int) (c:Q6p):Q6p:=⟨c.name,c.chance,Q2p nb na 0 c.members⟩
def Q2d (na nb:Int) (g:Gate):Gate:=⟨g.kind,g.need,Q2p na 0 nb g.inputs⟩
def Q3l (na nb ga:Int) (g:Gate):Gate:=⟨g.kind,g.need,Q2p nb na (na + ga) g.inputs⟩
def Q4z (a b:Tree):Int:=(a.basics.length:Int) + b.basics.length + (a.gates.length + b.gates.length) - 1
def Q0k (a b:Tree) (kind:ByteArray):Tree :=
 ⟨a.basics ++ b.basics,a.causes ++ b.causes.map (Q3m a.basics.length b.basics.length),
  a.gates.map (Q2d a.basics.length b.basics.length) ++ b.gates.map (Q3l a.basics.length b.basics.length a.gates.length) ++ [⟨kind,0,[Q4z a b - b.gates.length,Q4z a b]⟩]⟩
def Q4g (a b:Tree):Bool:=(Q4q a).any fun s=>Y6t (Q4q b) s
def Q8f (a b:Tree):Bool:=decide (12 < a.basics.length + b.basics.length + a.causes.length + b.causes.length) || decide (32 <= a.gates.length + b.gates.length)
def X1f (a b:Tree) (kind:ByteArray):Int:=Q0i [a.err,b.err,Q0n (!(kind == Q4v) && !(kind == sOr)) 13]
def Q3w (a b:Tree):Int:=Q0i [Q0n (Q4g a b) 9,Q0n (Q8f a b) 5]
def Q8x (a b:Tree) (kind:ByteArray):Int:=if X1f a b kind = 0 then Q3w a b else X1f a b kind
def Y0k (a b:Tree) (kind:ByteArray):Tree:=if Q8x a b kind = 0 then Q0k a b kind else ⟨[],[],[]⟩
def Q8r (w:World) (L:List (ByteArray × Int × Value)) (l:List (ByteArray × Int × List Int)):Prop :=
 L.length = l.length /\ ∀ i (h1:i < L.length) (h2:i < l.length),L[i].1 = l[i].1 /\ L[i].2.1 = l[i].2.1 /\ Q0t w 0 3 (.int .i64) L[i].2.2 l[i].2.2
theorem Q8r.nil (w:World):Q8r w [] []:=⟨rfl,fun _ h=>absurd h (Nat.not_lt_zero _)⟩
theorem Q8r.ext {w w':World} {L:List (ByteArray × Int × Value)} {l:List (ByteArray × Int × List Int)} (h:Q8r w L l) (hx:Ext w w'):Q8r w' L l :=
 ⟨h.1,fun i h1 h2=>⟨(h.2 i h1 h2).1,(h.2 i h1 h2).2.1,(h.2 i h1 h2).2.2.below hx⟩⟩
theorem Q8r.keep {T:TypeId} {w w':World} {L:List (ByteArray × Int × Value)} {l:List (ByteArray × Int × List Int)} (h:Q8r w L l) (hT:3 ≠ T) (hk:Keep T w w'):Q8r w' L l :=
 ⟨h.1,fun i h1 h2=>⟨(h.2 i h1 h2).1,(h.2 i h1 h2).2.1,Q3x (h.2 i h1 h2).2.2 hT hk⟩⟩
theorem Q8r.snoc {w:World} {L:List (ByteArray × Int × Value)} {l:List (ByteArray × Int × List Int)} (h:Q8r w L l) (n:ByteArray) (c:Int) {m:Value} {xs:List Int} (hm:Q0t w 0 3 (.int .i64) m xs):Q8r w (L ++ [(n,c,m)]) (l ++ [(n,c,xs)]):=by
 refine ⟨by simp [h.1],fun i h1 h2=>?_⟩
 by_cases hi:i < L.length
 . rw [List.getElem_append_left hi,List.getElem_append_left (by rw [<- h.1]; exact hi)]
   exact h.2 i hi (by rw [<- h.1]; exact hi)
 . have e:i = L.length:=by simp at h1; omega
   subst e;have e2:L.length = l.length:=h.1;simp only [List.getElem_concat_length];have e3:(l ++ [(n,c,xs)])[L.length] = (n,c,xs):=by simp [e2]
   rw [e3];exact ⟨rfl,rfl,hm⟩
theorem Q8r.set {w:World} {L:List (ByteArray × Int × Value)} {l:List (ByteArray × Int × List Int)} (h:Q8r w L l) {i:Nat} (_hi:i < L.length) (n:ByteArray) (c:Int) {m:Value} {xs:List Int} (hm:Q0t w 0 3 (.int .i64) m xs):Q8r w (L.set i (n,c,m)) (l.set i (n,c,xs)):=by
 refine ⟨by simp [h.1],fun j h1 h2=>?_⟩
 have hj:j < L.length:=by simpa using h1
 have hj2:j < l.length:=by simpa using h2
 by_cases e:i = j
 . subst e
   simp only [List.getElem_set_self,true_and];exact hm
 . rw [List.getElem_set_ne e,List.getElem_set_ne e]
   exact h.2 j hj hj2
def Y4m (c:Q6p):ByteArray × Int × List Int:=(c.name,c.chance,c.members)
def X6f (g:Gate):ByteArray × Int × List Int:=(g.kind,g.need,g.inputs)
theorem Q8r.causes {w:World} {base:Nat} {T:TypeId} {v:Value} {L:List (ByteArray × Int × Value)} {l:List Q6p} (h:Q8r w L (l.map Y4m)) (ho:Q1o w base T 3 enc3 v L) (hl:l.length <= 1000) (hs:∀ i,i < l.length -> Short (cName l i) /\ (Q0e l i).length <= 17592186043904):Q3i w v l:=by
 have hlen:L.length = l.length:=by rw [h.1,List.length_map]
 refine ho.rowsOf hlen (by omega) Q0s (fun j h1 h2=>?_) (fun c c' x hc h=>?_)
 . obtain ⟨e1,e2,e3⟩:=h.2 j h1 (by rw [List.length_map]; exact h2)
   have hsj:=hs j h2;have e:l.getD j default = l[j]:=getD_at h2;unfold cName Q0e at hsj;rw [e] at hsj;simp only [List.getElem_map,Y4m] at e1 e2 e3;refine ⟨?_,?_,?_,hsj.1⟩
   . show Value.string L[j].1 = _; rw [e1]
   . show Value.int .i64 L[j].2.1 = _; rw [e2]
   . exact e3.ints hsj.2
 . obtain ⟨h1,h2,h3,h4⟩:=h
   exact ⟨by rw [<- hc 0 (by omega)]; exact h1,by rw [<- hc 1 (by omega)]; exact h2,by rw [<- hc 2 (by omega)]; exact h3,h4⟩
theorem Q8r.gates {w:World} {base:Nat} {T:TypeId} {v:Value} {L:List (ByteArray × Int × Value)} {l:List Gate} (h:Q8r w L (l.map X6f)) (ho:Q1o w base T 3 enc3 v L) (hl:l.length <= 1000) (hs:∀ i,i < l.length -> Short (Q1u l i) /\ (Q0j l i).length <= 17592186043904):Q5f w v l:=by
 have hlen:L.length = l.length:=by rw [h.1,List.length_map]
 refine ho.rowsOf hlen (by omega) Q0s (fun j h1 h2=>?_) (fun c c' x hc h=>?_)
 . obtain ⟨e1,e2,e3⟩:=h.2 j h1 (by rw [List.length_map]; exact h2)
   have hsj:=hs j h2;have e:l.getD j default = l[j]:=getD_at h2;unfold Q1u Q0j at hsj;rw [e] at hsj;simp only [List.getElem_map,X6f] at e1 e2 e3;refine ⟨?_,?_,?_,hsj.1⟩
   . show Value.string L[j].1 = _; rw [e1]
   . show Value.int .i64 L[j].2.1 = _; rw [e2]
   . exact e3.ints hsj.2
 . obtain ⟨h1,h2,h3,h4⟩:=h
   exact ⟨by rw [<- hc 0 (by omega)]; exact h1,by rw [<- hc 1 (by omega)]; exact h2,by rw [<- hc 2 (by omega)]; exact h3,h4⟩
theorem X6z {α:Type} {enc:α -> List Value} {k:Nat} (hk:∀ x,(enc x).length = k) {w:World} {g n:Nat} {T:TypeId} {f:Nat -> α} (hb:Blk w g T (Q1g enc n f)) (hn:n <= 100000) {base:Nat} (hg:base <= g):Q1o w base T k enc (.slice (some ⟨g,0,none⟩) n n) ((List.range n).map f):=by
 have hs:=Q1f hk n f;refine ⟨by rw [Q6n hk],.inr ⟨g,n,_,by simp,hg,hb,by simp,by unfold maxLen; omega,hs,?_⟩⟩
 rw [X1h];simp only [List.length_map,List.length_range];rw [List.take_of_length_le (by rw [Q6n hk]; simp)]
theorem Y5d {w:World} {n:Nat} {f:Nat -> ByteArray × Int × Value} {l:List (ByteArray × Int × List Int)} (hl:l.length = n) (h:∀ i (hi:i < l.length),(f i).1 = l[i].1 /\ (f i).2.1 = l[i].2.1 /\ Q0t w 0 3 (.int .i64) (f i).2.2 l[i].2.2):Q8r w ((List.range n).map f) l :=
 ⟨by simp [hl],fun i h1 h2=>by simp only [List.getElem_map,List.getElem_range]; exact h i h2⟩
end Go.Proofs
