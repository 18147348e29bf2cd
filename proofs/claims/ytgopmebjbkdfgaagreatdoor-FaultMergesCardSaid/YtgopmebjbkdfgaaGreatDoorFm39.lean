/- Contracts: slices.Grow of nil; slices.Concat of two lists (strings; basics). Contract: Merge's names. -/
import Derived.Test.YtgopmebjbkdfgaaGreatDoorFm38
import Derived.Test.YtgopmebjbkdfgaaGreatDoorFm26
import Derived.Test.YtgopmebjbkdfgaaGreatDoorFm33
import Derived.Lib.AppendZeros
set_option maxRecDepth 1000000
set_option maxHeartbeats 64000000
set_option linter.unusedVariables false
set_option linter.unusedSimpArgs false
set_option linter.constructorNameAsVariable false
namespace Go.Proofs
open Go.RowKit Go.Tw Go.Flow
theorem X2t (z:Array Value) (n:Nat):(Builtin.zeroCells z n).size = n * z.size:=by simp [Builtin.zeroCells]
theorem X8s (w:World) (e:TypeId) (z:Array Value) (k n:Nat) (hz:z.size = k) (hn:n <= 100000) :
    (w.drew.alloc (.cells (Builtin.zeroCells z n ++ Builtin.zeroCells z (grownCap w n 0 e - n)) e)).ownsRow w.heap.size e k (.slice (some ⟨w.heap.size,0,none⟩) 0 (grownCap w n 0 e)) 0 []:=by
 have h1:=grownCap_ge w n 0 e;have h2:=grownCap_le_maxLen w n 0 e (by unfold maxLen; omega)
 refine ⟨by simp,.inr ⟨w.heap.size,grownCap w n 0 e,_,rfl,Nat.le_refl _,heap_alloc_new w.drew _,Nat.zero_le _,h2,?_,by simp⟩⟩
 rw [Array.size_append,X2t,X2t,hz,<- Nat.add_mul]
 congr 1
 omega
theorem Z0e (w:World) (n:Nat) (h0:0 < n) (hn:n <= 100000) :
    Calls Tryz.prog 107 #[.slice none 0 0,.int .i64 n] w fun e w'=>∃ b c,e = .returned (.slice b 0 c) /\ w'.ownsRow w.heap.size 9 1 (.slice b 0 c) 0 [] /\ Ext w w':=by
 obtain ⟨i0,hi,hz0,hz1,hz2⟩:=info_parts Tryz.X1v;have hrun:=Lib.run_append_nil_zeros (P:=Tryz.prog) w 72 3 72 9 i0 (.string emp) .i64 .i64 Tryz.underlying72 Tryz.underlying3 hi hz0 n h0 (by rw [hz1]; decide) (by omega) (by rw [hz2]; omega)
 have HR:=Lib.hid hrun;have HO:=Lib.hid (X8s w 9 (.string emp:Value).cells 1 n rfl hn);have HX:Hid (Ext w (w.drew.alloc (.cells (Builtin.zeroCells (.string emp:Value).cells n ++ Builtin.zeroCells (.string emp:Value).cells (grownCap w n 0 9 - n)) 9))):=Lib.hid ((Ext.refl w).drew.alloc _);obtain ⟨gc,hgc⟩:∃ c,grownCap w n 0 9 = c:=⟨_,rfl⟩;rw [hgc] at HR HO HX;obtain ⟨wz,hwz⟩:∃ x,w.drew.alloc (.cells (Builtin.zeroCells (.string emp:Value).cells n ++ Builtin.zeroCells (.string emp:Value).cells (gc - n)) 9) = x:=⟨_,rfl⟩;rw [hwz] at HR HO HX;clear hrun hgc hwz hi hz0 hz1 hz2;have hnI:(0:Int) < n:=by omega
 have g1:¬ (n:Int) < 0:=by omega
 go_enter Tryz.func107,Tryz.ntmps107;go_wp2_with (at_builtin; refine Lib.wpList_append_run _ rfl _ _ _ _ rfl _ _ rfl rfl _ _ HR.out ?_);go_ret;exact ⟨_,_,rfl,HO.out,HX.out⟩
theorem Y9n (w:World) (n:Nat) (h0:0 < n) (hn:n <= 100000) :
    Calls Tryz.prog 109 #[.slice none 0 0,.int .i64 n] w fun e w'=>∃ b c,e = .returned (.slice b 0 c) /\ w'.ownsRow w.heap.size 103 2 (.slice b 0 c) 0 [] /\ Ext w w':=by
 obtain ⟨i0,hi,hz0,hz1,hz2⟩:=info_parts Tryz.Z4d;have hrun:=Lib.run_append_nil_zeros (P:=Tryz.prog) w 29 3 29 103 i0 (.agg #[.string emp,.int .i64 0]) .i64 .i64 Tryz.underlying29 Tryz.underlying3 hi hz0 n h0 (by rw [hz1]; decide) (by omega) (by rw [hz2]; omega)
 have HR:=Lib.hid hrun;have HO:=Lib.hid (X8s w 103 (.agg #[.string emp,.int .i64 0]:Value).cells 2 n rfl hn);have HX:Hid (Ext w (w.drew.alloc (.cells (Builtin.zeroCells (.agg #[.string emp,.int .i64 0]:Value).cells n ++ Builtin.zeroCells (.agg #[.string emp,.int .i64 0]:Value).cells (grownCap w n 0 103 - n)) 103))):=Lib.hid ((Ext.refl w).drew.alloc _);obtain ⟨gc,hgc⟩:∃ c,grownCap w n 0 103 = c:=⟨_,rfl⟩;rw [hgc] at HR HO HX;obtain ⟨wz,hwz⟩:∃ x,w.drew.alloc (.cells (Builtin.zeroCells (.agg #[.string emp,.int .i64 0]:Value).cells n ++ Builtin.zeroCells (.agg #[.string emp,.int .i64 0]:Value).cells (gc - n)) 103) = x:=⟨_,rfl⟩;rw [hwz] at HR HO HX;clear hrun hgc hwz hi hz0 hz1 hz2;have hnI:(0:Int) < n:=by omega
 have g1:¬ (n:Int) < 0:=by omega
 go_enter Tryz.func109,Tryz.ntmps109;go_wp2_with (at_builtin; refine Lib.wpList_append_run _ rfl _ _ _ _ rfl _ _ rfl rfl _ _ HR.out ?_);go_ret;exact ⟨_,_,rfl,HO.out,HX.out⟩
theorem Q4n {P:Program} {w:World} {ops:Array Oper} {rest:List Oper} {o:Oper} {a:Act} {Q:Exit -> Act -> World -> Prop} (hg:o.guard = none)
    (h:gives P (fun u w'=>wpList P ops Q rest (a.put o.dst u) w') ((execOp a.eval o).run P w)):wpList P ops Q (o :: rest) a w :=
 wpList_plain hg fun K' hK'=>by
  unfold Oper.wp;exact Q7h (Q8w (fun _ _ hk=>hK' _ _ hk) h)
theorem Y6g {w:World} {v:Value} {l:List ByteArray} (h:Q2t w v l):Src w Value.string v l:=by
 obtain ⟨A,cap,rfl,_,_,hc⟩:=h.opened;refine ⟨A,cap,rfl,fun j hj=>?_⟩;obtain ⟨b,off,hA,hcell⟩:=hc j hj;exact ⟨b,off,hA,by rw [hcell,Z3h hj]⟩
def X4w {α:Type} (l1 l2:List α) (k:Nat):List α:=if k = 0 then [] else if k = 1 then l1 else l1 ++ l2
theorem Q5d {α:Type} (l1 l2:List α):X4w l1 l2 1 = l1:=rfl
theorem Q6v {α:Type} (l1 l2:List α):X4w l1 l2 2 = l1 ++ l2:=rfl
theorem Y5f (w:World) (g:Nat) (TS:TypeId) (a b:Value) (l1 l2:List ByteArray) (hB:Blk w g TS #[a,b]) (ha:Q2t w a l1) (hb:Q2t w b l2) (h0:0 < l1.length) (hl:l1.length + l2.length <= 1000) :
    Calls Tryz.prog 52 #[.slice (some ⟨g,0,none⟩) 2 2] w fun e w'=>∃ x,e = .returned x /\ Q0r w' w.heap.size 9 .string x (l1 ++ l2) /\ Ext w w':=by
 have c0:=hB.cell 0;have c1:=hB.cell 1;simp only [Go.Tw.gA,Go.Tw.gB,Go.Tw.gC] at c0 c1;have HA:=Lib.hid ha;have HB:=Lib.hid hb;obtain ⟨A,ca,rfl,hl1,_,_⟩:=ha.opened;obtain ⟨B,cb,rfl,hl2,_,_⟩:=hb.opened;have HBB:=Lib.hid hB;clear ha hb hB;go_enter Tryz.func52,Tryz.ntmps52;go_wp2
 go_loopw [3,11] (fun n i wr=>∃ (k:Nat),k <= 2 /\ i = .int .i64 k /\ n = .int .i64 (((X4w l1 l2 k).length:Nat):Int) /\ wr = w) (fun _ i _=>2 - (intOf i).toNat)
 case atStart=>exact ⟨0,Nat.zero_le _,rfl,rfl,rfl⟩
 case round =>
  obtain ⟨k,hk,rfl,rfl,rfl⟩:=hrel;obtain rfl | rfl | rfl:k = 0 ∨ k = 1 ∨ k = 2:=by omega
  . have e0:(((X4w l1 l2 0).length:Nat):Int) = 0:=rfl
    rw [e0];go_wp2;go_roundw
    case rel=>exact ⟨1,by omega,rfl,by rw [Q5d]; try simp,trivial⟩
    case measure=>simp [intOf]
  . rw [Q5d]
    go_wp2;go_roundw
    case rel=>exact ⟨2,by omega,rfl,by rw [Q6v,List.length_append]; try go_num,trivial⟩
    case measure=>simp [intOf]
  . rw [Q6v,List.length_append]
    obtain ⟨W0,rfl⟩:∃ X,X = wr:=⟨_,rfl⟩;have e2:(((l1.length + l2.length:Nat)):Int) = (l1.length:Int) + l2.length:=by omega
    go_wp2_with fail;refine (Z0e _ (l1.length + l2.length) (by omega) (by omega)).mono ?_
    rintro e w1 ⟨bg,cg,rfl,hg,hx1⟩;have HG:Hid (Q0r w1 W0.heap.size 9 .string (.slice bg 0 cg) ([]:List ByteArray)):=Lib.hid hg;have HX1:=Lib.hid hx1;replace c0:=hx1.cell c0;replace c1:=hx1.cell c1;obtain ⟨i0,hi,hz0,hz1,hz2⟩:=info_parts Tryz.X1v;clear hg hx1 e2;go_wp2
    go_loopw [6,27] (fun o i wq=>∃ (k:Nat),k <= 2 /\ i = .int .i64 k /\ Q0r wq W0.heap.size 9 .string o (X4w l1 l2 k) /\ Ext W0 wq) (fun _ i _=>2 - (intOf i).toNat)
    case atStart=>exact ⟨0,Nat.zero_le _,rfl,HG.out,HX1.out⟩
    case round =>
     clear HG HX1 c0 c1;obtain ⟨k,hk,rfl,hown,hx⟩:=hrel;have HX:=Lib.hid hx;have HOW:=Lib.hid hown;have c0:=(HBB.out.ext hx).cell 0;have c1:=(HBB.out.ext hx).cell 1;simp only [Go.Tw.gA,Go.Tw.gB,Go.Tw.gC] at c0 c1;clear hown hx;obtain rfl | rfl | rfl:k = 0 ∨ k = 1 ∨ k = 2:=by omega
     . go_wp2_with (refine Q4n (o:=⟨some 33,_,_,_,_,_⟩) rfl ?_; refine Q6z (.tmp 31) (.tmp 32) 72 rfl W0.heap.size 9 i0 (.string emp) 16 Tryz.underlying72 hi hz0 hz1 hz2 rfl .string _ _ (X4w l1 l2 0) l1 rfl HOW.out rfl (Y6g (HA.out.ext HX.out)) (fun _ _=>rfl) (by first | (rw [Q5d]; omega) | (show 0 + _ <= _; omega)) (by decide) HX.out.size ?_; intro v' w9 hown' hgrow)
       have hx':Ext W0 w9:=Below.grown HX.out hgrow (by have:=HX.out.size; omega) (fun j hj=>(HOW.out.lt j hj).1)
       have HX':=Lib.hid hx';have HOW':=Lib.hid hown';clear hx' hown' hgrow;go_wp2;go_roundw
       case rel=>exact ⟨1,by omega,rfl,by rw [Q5d]; exact HOW'.out,HX'.out⟩
       case measure=>simp [intOf]
     . go_wp2_with (refine Q4n (o:=⟨some 33,_,_,_,_,_⟩) rfl ?_; refine Q6z (.tmp 31) (.tmp 32) 72 rfl W0.heap.size 9 i0 (.string emp) 16 Tryz.underlying72 hi hz0 hz1 hz2 rfl .string _ _ (X4w l1 l2 1) l2 rfl HOW.out rfl (Y6g (HB.out.ext HX.out)) (fun _ _=>rfl) (by first | (rw [Q5d]; omega) | (show 0 + _ <= _; omega)) (by decide) HX.out.size ?_; intro v' w9 hown' hgrow)
       have hx':Ext W0 w9:=Below.grown HX.out hgrow (by have:=HX.out.size; omega) (fun j hj=>(HOW.out.lt j hj).1)
       have HX':=Lib.hid hx';have HOW':=Lib.hid hown';clear hx' hown' hgrow;go_wp2;go_roundw
       case rel=>exact ⟨2,by omega,rfl,by rw [Q6v]; exact HOW'.out,HX'.out⟩
       case measure=>simp [intOf]
     . go_wp2
       go_ret;exact ⟨_,rfl,by rw [<- Q6v]; exact HOW.out,HX.out⟩
theorem X6r {w:World} {A:Option Addr} {n cap:Nat} {l:List Basic} (h:Q2j w (.slice A n cap) l):0 < l.length -> ∃ ad,A = some ad /\ ∀ j u,(l.flatMap Q8h)[j]? = some u -> w.cell? (ad.add j) = some u:=fun h0=>by
 obtain ⟨_,_,he,_,_,hc⟩:=h.opened;cases he;obtain ⟨b,off,hA,_⟩:=hc 0 h0;exact ⟨_,hA,X4h h hA⟩
theorem Y3z (w:World) (g:Nat) (TS:TypeId) (a b:Value) (l1 l2:List Basic) (hB:Blk w g TS #[a,b]) (ha:Q2j w a l1) (hb:Q2j w b l2) (h0:0 < l1.length) (hl:l1.length + l2.length <= 1000) :
    Calls Tryz.prog 58 #[.slice (some ⟨g,0,none⟩) 2 2] w fun e w'=>∃ x,e = .returned x /\ Q1d w' w.heap.size 103 2 Q8h x (l1 ++ l2) /\ Ext w w':=by
 have c0:=hB.cell 0;have c1:=hB.cell 1;simp only [Go.Tw.gA,Go.Tw.gB,Go.Tw.gC] at c0 c1;have HA:=Lib.hid ha;have HB:=Lib.hid hb;obtain ⟨A,ca,rfl,hl1,_,_⟩:=ha.opened;obtain ⟨B,cb,rfl,hl2,_,_⟩:=hb.opened;have HBB:=Lib.hid hB;clear ha hb hB;go_enter Tryz.func58,Tryz.ntmps58;go_wp2
 go_loopw [3,11] (fun n i wr=>∃ (k:Nat),k <= 2 /\ i = .int .i64 k /\ n = .int .i64 (((X4w l1 l2 k).length:Nat):Int) /\ wr = w) (fun _ i _=>2 - (intOf i).toNat)
 case atStart=>exact ⟨0,Nat.zero_le _,rfl,rfl,rfl⟩
 case round =>
  obtain ⟨k,hk,rfl,rfl,rfl⟩:=hrel;obtain rfl | rfl | rfl:k = 0 ∨ k = 1 ∨ k = 2:=by omega
  . have e0:(((X4w l1 l2 0).length:Nat):Int) = 0:=rfl
    rw [e0];go_wp2;go_roundw
    case rel=>exact ⟨1,by omega,rfl,by rw [Q5d]; try simp,trivial⟩
    case measure=>simp [intOf]
  . rw [Q5d]
    go_wp2;go_roundw
    case rel=>exact ⟨2,by omega,rfl,by rw [Q6v,List.length_append]; try go_num,trivial⟩
    case measure=>simp [intOf]
  . rw [Q6v,List.length_append]
    obtain ⟨W0,rfl⟩:∃ X,X = wr:=⟨_,rfl⟩;have e2:(((l1.length + l2.length:Nat)):Int) = (l1.length:Int) + l2.length:=by omega
    go_wp2_with fail;refine (Y9n _ (l1.length + l2.length) (by omega) (by omega)).mono ?_
    rintro e w1 ⟨bg,cg,rfl,hg,hx1⟩;have HG:Hid (Q1d w1 W0.heap.size 103 2 Q8h (.slice bg 0 cg) ([]:List Basic)):=Lib.hid hg;have HX1:=Lib.hid hx1;replace c0:=hx1.cell c0;replace c1:=hx1.cell c1;obtain ⟨i0,hi,hz0,hz1,hz2⟩:=info_parts Tryz.Z4d;clear hg hx1 e2;go_wp2
    go_loopw [6,27] (fun o i wq=>∃ (k:Nat),k <= 2 /\ i = .int .i64 k /\ Q1d wq W0.heap.size 103 2 Q8h o (X4w l1 l2 k) /\ Ext W0 wq) (fun _ i _=>2 - (intOf i).toNat)
    case atStart=>exact ⟨0,Nat.zero_le _,rfl,HG.out,HX1.out⟩
    case round =>
     clear HG HX1 c0 c1;obtain ⟨k,hk,rfl,hown,hx⟩:=hrel;have HX:=Lib.hid hx;have HOW:=Lib.hid hown;have c0:=(HBB.out.ext hx).cell 0;have c1:=(HBB.out.ext hx).cell 1;simp only [Go.Tw.gA,Go.Tw.gB,Go.Tw.gC] at c0 c1;clear hown hx;obtain rfl | rfl | rfl:k = 0 ∨ k = 1 ∨ k = 2:=by omega
     . go_wp2_with (refine Q4n (o:=⟨some 33,_,_,_,_,_⟩) rfl ?_; refine Q5f (.tmp 31) (.tmp 32) 29 rfl W0.heap.size 103 i0 (.agg #[.string emp,.int .i64 0]) 2 24 Tryz.underlying29 hi hz0 hz1 hz2 rfl (by decide) Q8h Q6k _ (X4w l1 l2 0) l1 rfl HOW.out A ca rfl (X6r (HA.out.ext HX.out)) (X5k l1) (by first | (rw [Q5d]; omega) | (show 0 + _ <= _; omega)) (by decide) HX.out.size ?_; intro v' w9 hown' hgrow)
       have hx':Ext W0 w9:=Below.grown HX.out hgrow (by have:=HX.out.size; omega) (fun j hj=>(HOW.out.lt j hj).1)
       have HX':=Lib.hid hx';have HOW':=Lib.hid hown';clear hx' hown' hgrow;go_wp2;go_roundw
       case rel=>exact ⟨1,by omega,rfl,by rw [Q5d]; exact HOW'.out,HX'.out⟩
       case measure=>simp [intOf]
     . go_wp2_with (refine Q4n (o:=⟨some 33,_,_,_,_,_⟩) rfl ?_; refine Q5f (.tmp 31) (.tmp 32) 29 rfl W0.heap.size 103 i0 (.agg #[.string emp,.int .i64 0]) 2 24 Tryz.underlying29 hi hz0 hz1 hz2 rfl (by decide) Q8h Q6k _ (X4w l1 l2 1) l2 rfl HOW.out B cb rfl (X6r (HB.out.ext HX.out)) (X5k l2) (by first | (rw [Q5d]; omega) | (show 0 + _ <= _; omega)) (by decide) HX.out.size ?_; intro v' w9 hown' hgrow)
       have hx':Ext W0 w9:=Below.grown HX.out hgrow (by have:=HX.out.size; omega) (fun j hj=>(HOW.out.lt j hj).1)
       have HX':=Lib.hid hx';have HOW':=Lib.hid hown';clear hx' hown' hgrow;go_wp2;go_roundw
       case rel=>exact ⟨2,by omega,rfl,by rw [Q6v]; exact HOW'.out,HX'.out⟩
       case measure=>simp [intOf]
     . go_wp2
       go_ret;exact ⟨_,rfl,by rw [<- Q6v]; exact HOW.out,HX.out⟩
end Go.Proofs
namespace Go.Proofs
open Go.RowKit Go.Tw Go.Flow
theorem X6a {w:World} {base:Nat} {e:TypeId} {v:Value} {l:List ByteArray} (h:Q0r w base e Value.string v l) (hl:l.length <= 17592186043904):Q2t w v l :=
 h.rows hl (fun _ _=>rfl) (fun _ _ _ h h'=>h ▸ h')
def X0i (t:Tree):List ByteArray:=t.basics.map fun x=>x.name
def X1m (t:Tree):List ByteArray:=t.causes.map fun x=>x.name
def Q5b (t:Tree):List ByteArray:=X0i t ++ X1m t
theorem Q9a (t:Tree):(X0i t).length = t.basics.length:=List.length_map ..
theorem X7x (t:Tree):(X1m t).length = t.causes.length:=List.length_map ..
theorem Y4j (w:World) (v:Value) (l:List Basic) (hv:Q2j w v l) (hle:l.length <= 1000) :
    Calls Tryz.prog 53 #[v,.func (.func 54) #[] #[]] w fun e w'=>∃ x,e = .returned x /\ Q2t w' x (l.map fun x=>x.name) /\ Ext w w' :=
 (Y2o w v l hv hle).mono fun _ _ ⟨x,h1,h2,h3⟩=>⟨x,h1,X6a h2 (by rw [List.length_map]; omega),h3⟩
theorem Y3g (w:World) (v:Value) (l:List Q7s) (hv:Q3p w v l) (hle:l.length <= 1000) :
    Calls Tryz.prog 55 #[v,.func (.func 56) #[] #[]] w fun e w'=>∃ x,e = .returned x /\ Q2t w' x (l.map fun x=>x.name) /\ Ext w w' :=
 (Y2u w v l hv hle).mono fun _ _ ⟨x,h1,h2,h3⟩=>⟨x,h1,X6a h2 (by rw [List.length_map]; omega),h3⟩
theorem Y9a (w:World) (g:Nat) (TS:TypeId) (a b:Value) (l1 l2:List ByteArray) (hB:Blk w g TS #[a,b]) (ha:Q2t w a l1) (hb:Q2t w b l2) (h0:0 < l1.length) (hl:l1.length + l2.length <= 1000) :
    Calls Tryz.prog 52 #[.slice (some ⟨g,0,none⟩) 2 2] w fun e w'=>∃ x,e = .returned x /\ Q2t w' x (l1 ++ l2) /\ Ext w w' :=
 (Y5f w g TS a b l1 l2 hB ha hb h0 hl).mono fun _ _ ⟨x,h1,h2,h3⟩=>⟨x,h1,X6a h2 (by rw [List.length_append]; omega),h3⟩
theorem Y2d (w:World) (v:Value) (t:Tree) (ht:IsTree w v t) (h1:0 < t.basics.length) (hn:t.basics.length + t.causes.length <= 1000) :
    Calls Tryz.prog 51 #[v] w fun e w'=>∃ x,e = .returned x /\ Q2t w' x (Q5b t) /\ Ext w w':=by
 obtain ⟨a,b,c,rfl,h3⟩:=ht;obtain ⟨A,capa,rfl,hl1,hcap1,_⟩:=h3.basics.opened;obtain ⟨B,capb,rfl,hl2,hcap2,_⟩:=h3.causes.opened;obtain ⟨G,capg,rfl,hl3,hcap3,_⟩:=h3.gates.opened;have HT0:=Lib.hid h3;clear h3;go_enter Tryz.func51,Tryz.ntmps51;go_upto_region 1 with fail;change Code.wp _ _ _ _ (w.alloc (.cells #[.slice A t.basics.length capa,.slice B t.causes.length capb,.slice G t.gates.length capg] 33));obtain ⟨W,hWW,k0,HXW,eW⟩:=Q3z w 33 #[.slice A t.basics.length capa,.slice B t.causes.length capb,.slice G t.gates.length capg];rw [hWW];clear hWW;have HT:=Lib.hid (HT0.out.ext HXW.out);have K0:=Lib.hid k0;have hdr:=(Ext.refl W).drew;have HL:Hid (0 < (X0i t).length /\ (X0i t).length + (X1m t).length <= 1000):=Lib.hid (by rw [Q9a,X7x]; exact ⟨h1,hn⟩)
 clear k0;refine Flow.Q2m [.p,.w,.w,.p,.w,.w,.w,.w,.p] [0,1,2,3,4,5,6,7,8] [[],[0],[1],[],[3],[2,4],[2,5],[2,5,6],[0,1,2,3,4,5,6,7]]
  [.c 0 (.pointer (some ⟨w.heap.size,0,none⟩)),.c 1 (.slice A t.basics.length capa),⟨fun v wz=>Q2t wz (v 2) (X0i t),fun _ _ _ hx h=>h.ext hx⟩,.c 3 (.pointer (some ⟨w.heap.size,1,none⟩)),.c 4 (.slice B t.causes.length capb),⟨fun v wz=>Q2t wz (v 5) (X1m t),fun _ _ _ hx h=>h.ext hx⟩,⟨fun v wz=>(fun v w'=>∃ g,v 6 = .slice (some ⟨g,0,none⟩) 2 2 /\ Blk w' g 72 #[v 2,v 5]) v wz,by rintro v a b hx ⟨g,h1,h2⟩; exact ⟨g,h1,h2.ext hx⟩⟩,⟨fun v wz=>Q2t wz (v 7) ((X0i t) ++ X1m t),fun _ _ _ hx h=>h.ext hx⟩,.is 8 (fun v=>v 7)]
  (by kernel_rfl) rfl (by kernel_rfl) ⟨?g0,?g1,?g2,?g3,?g4,?g5,?g6,?g7,?g8,trivial⟩ ?post
 case g0 | g3=>
  intro v w1 hx;intro bb hbb;subst hbb;refine ⟨_,fun w=>?_,rfl⟩;go_simp
 case g1 | g4=>
  intro v w1 hx;(repeat intro (zq:v _ = _));intro bb hbb;subst hbb;have n0:w1.cell? ⟨w.heap.size,0,none⟩ = some (.slice A t.basics.length capa):=(K0.out.ext (hdr.trans hx)).cell 0;have n1:w1.cell? ⟨w.heap.size,1,none⟩ = some (.slice B t.causes.length capb):=(K0.out.ext (hdr.trans hx)).cell 1;intro K hK;go_simp;exact hK _ _ (Ext.refl _) rfl
 case g2=>
  intro v w1 hx;(repeat intro (zq:v _ = _));intro bb hbb;subst hbb;intro K hK;go_simp;refine Q0c (Y4j w1 _ t.basics (HT.out.basics.ext (hdr.trans hx)) (by omega)) ?_
  rintro e w2 ⟨x,rfl,h,hx2⟩;exact ⟨_,rfl,hK _ _ hx2 h⟩
 case g5=>
  intro v w1 hx _ (q4:v 4 = _);intro bb hbb;subst hbb;intro K hK;go_simp;refine Q0c (Y3g w1 _ t.causes (HT.out.causes.ext (hdr.trans hx)) (by omega)) ?_
  rintro e w2 ⟨x,rfl,h,hx2⟩;exact ⟨_,rfl,hK _ _ hx2 h⟩
 case g6=>
  intro v w1 hx (q2:Q2t w1 (v 2) (X0i t)) (q5:Q2t w1 (v 5) (X1m t));intro bb hbb;subst hbb;intro K hK;obtain ⟨A2,c2,e2,_⟩:=q2.opened;obtain ⟨A5,c5,e5,_⟩:=q5.opened;go_simp;exact hK _ _ (Ext.box _ _) ⟨_,rfl,by show Blk _ _ _ #[v 2,v 5]; rw [e2,e5]; exact Blk.made _ _ _⟩
 case g7=>
  intro v w1 hx (q2:Q2t w1 (v 2) (X0i t)) (q5:Q2t w1 (v 5) (X1m t)) (q6:(fun v w'=>∃ g,v 6 = .slice (some ⟨g,0,none⟩) 2 2 /\ Blk w' g 72 #[v 2,v 5]) v w1);intro bb hbb;subst hbb;intro K hK;obtain ⟨g,hg,hb⟩:=q6;go_simp;refine Q0c (Y9a w1 g _ _ _ _ _ hb q2 q5 HL.out.1 HL.out.2) ?_;rintro e w2 ⟨x,rfl,h,hx2⟩;exact ⟨_,rfl,hK _ _ hx2 h⟩
 case g8=>
  intro v w1 hx (q0:v 0 = _) (q1:v 1 = _) _ (q3:v 3 = _) (q4:v 4 = _) _ _ _;intro bb hbb;subst hbb;refine ⟨_,fun w=>?_,rfl⟩;go_simp
 case post =>
  intro v w1 hx;(iterate 2 intro (zq:v _ = _));intro (q2:Q2t w1 (v 2) (X0i t));(iterate 2 intro (zq:v _ = _));intro (q5:Q2t w1 (v 5) (X1m t)) (q6:(fun v w'=>∃ g,v 6 = .slice (some ⟨g,0,none⟩) 2 2 /\ Blk w' g 72 #[v 2,v 5]) v w1) (q7:Q2t w1 (v 7) ((X0i t) ++ X1m t)) (q8:v 8 = v 7);simp only [Flow.All,Flow.acts,Act.put];go_simp;go_wp2;go_ret;exact ⟨_,rfl,q7,HXW.out.trans (hdr.trans hx)⟩
end Go.Proofs
