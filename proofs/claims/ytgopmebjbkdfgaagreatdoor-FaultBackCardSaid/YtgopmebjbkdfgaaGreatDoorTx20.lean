/- Contract: CheckCuts. -/
import Derived.Test.YtgopmebjbkdfgaaGreatDoorTx18
import Derived.Test.YtgopmebjbkdfgaaGreatDoorTx19
set_option maxRecDepth 1000000
set_option maxHeartbeats 64000000
set_option linter.unusedVariables false
set_option linter.unusedSimpArgs false
set_option linter.constructorNameAsVariable false
namespace Go.Proofs
open Go.RowKit Go.Tw Go.Flow
attribute [local go_sem] Oper.semAt_some
theorem X4z (w:World):(isAgg 34).run Tryz.prog w = .ok false w:=by kernel_rfl
theorem Y2m {w:World} {g:Nat} {v:Value} (hc:w.cell? ⟨g,0,none⟩ = some v):(loadVar 34 ⟨g,0,none⟩).run Tryz.prog w = .ok v w:=by
 unfold loadVar;simp only [Sem.run_bind,X4z,Result.andThen_ok];rw [if_neg (by simp)]
 simp only [load,Sem.run,hc]
theorem Q5u {fn:Func} {p:Tmp} (h:fn.results = #[.cell p 34]) {tmps:Array Value} {w:World} {g:Nat} (ht:tmps.getD p undef = .pointer (some ⟨g,0,none⟩)) {v:Value} (hc:w.cell? ⟨g,0,none⟩ = some v):(results fn tmps).run Tryz.prog w = .ok v w:=by
 unfold results;rw [h];simp only [List.mapM_toArray,List.mapM_cons,List.mapM_nil,Sem.run_bind,Sem.run_pure,ht,asAddr];simp [Y2m hc]
def X9i (t:Tree) (A:List (List Int)):Bool:=(A.map fun l=>(Q1n l:Int)).any fun x=>!t.fails (evN x.toNat)
def X4g (t:Tree) (B:List (List Int)):Bool:=(B.map fun l=>(Q1n l:Int)).any fun x=>!(!t.fails (evN (Q5r t x.toNat)))
def Z3g (t:Tree) (A B:List (List Int)) (s:Nat):Bool:=Z3w s (A.map fun l=>(Q1n l:Int)) || Z3w (Q5r t s) (B.map fun l=>(Q1n l:Int))
def Y2p (t:Tree) (A B:List (List Int)):Int:=if t.err = 0 then (if Q0g [Q3q t.size A,Q3q t.size B] = 0 then (if X9i t A then 22 else if X4g t B then 22 else if (List.finRange (2 ^ t.size)).all (fun x=>Z3g t A B x.1) then 0 else 22) else Q0g [Q3q t.size A,Q3q t.size B]) else t.err
theorem Y2l {n:Nat} {ll:List (List Int)} (h:Q3q n ll = 0):ll.length <= 1024 /\ ∀ l ∈ ll,∀ x ∈ l,0 <= x /\ x < (n:Int):=by
 unfold Q3q at h
 split at h
 . cases h
 . rename_i h1
   rw [Q1h] at h;exact ⟨by omega,fun l hl=>(Q2x (h _ (List.mem_map.2 ⟨l,hl,rfl⟩))).1⟩
theorem Y6a {t:Tree} {ll:List (List Int)} (hs:t.size <= 12) (h1:0 < t.size) (h:∀ l ∈ ll,∀ x ∈ l,0 <= x /\ x < (t.size:Int)):∀ x ∈ ll.map (fun l=>(Q1n l:Int)),0 <= x /\ x.toNat < 2 ^ t.size:=by
 intro x hx;obtain ⟨l,hl,rfl⟩:=List.mem_map.1 hx;exact ⟨by omega,by rw [Int.toNat_natCast]; exact Q9f h1 (fun x hx=>(h l hl x hx).2)⟩
theorem X6l (w:World) (v u z:Value) (t:Tree) (A0 B0:List (List Int)) (ht:IsTree w v t) (hu:Q1v w u A0) (hz:Q1v w z B0) :
    Calls Tryz.prog 43 #[v,u,z] w fun e w'=>e = .returned (.int .i64 (Y2p t A0 B0)) /\ Ext w w':=by
 obtain ⟨Au,capu,rfl,_,_,_⟩:=hu.opened;obtain ⟨Az,capz,rfl,_,_,_⟩:=hz.opened;have HU:=Lib.hid hu;have HZ:=Lib.hid hz;clear hu hz;obtain ⟨a,b,c,rfl,h3⟩:=ht;obtain ⟨A,capa,rfl,hl1,hcap1,_⟩:=h3.basics.opened;obtain ⟨B,capb,rfl,hl2,hcap2,_⟩:=h3.causes.opened;obtain ⟨G,capg,rfl,hl3,hcap3,_⟩:=h3.gates.opened;have HT0:=Lib.hid h3;clear h3;refine (callsIn_wide (n:=9)).1 ?_;refine callsIn_of_wp_marks Tryz.func43 rfl trivial ?_ rfl;simp only [Tryz.ntmps43,List.size_toArray,List.length_cons,List.length_nil,Nat.reduceAdd,Nat.reduceSub,Array.replicate_succ,Array.replicate_zero,List.push_toArray,List.append_toArray,List.nil_append,List.cons_append]
 gi_wp2_with (refine ⟨trivial,?_⟩; gi_at_call 49; refine halted ?_)
 change CallsIn _ _ _ _ _ ((w.alloc (.cells #[.slice A t.basics.length capa,.slice B t.causes.length capb,.slice G t.gates.length capg] 33)).alloc (.cells #[.int .i64 0] 34)) _;obtain ⟨W,hWW,k0,k1,HXW,eW⟩:=Q5l w 33 #[.slice A t.basics.length capa,.slice B t.causes.length capb,.slice G t.gates.length capg] 34 #[.int .i64 0];rw [hWW];clear hWW;have HT:=Lib.hid (HT0.out.ext HXW.out);refine (callsIn_wide.2 (Q1y _ _ t ⟨_,_,_,rfl,HT.out⟩)).mono ?_;rintro e w1 ⟨rfl,hx1⟩;have kt:=k0.ext hx1;have c0:=kt.cell 0;have c1:=kt.cell 1;have c2:=kt.cell 2;simp only [Go.Tw.gA,Go.Tw.gB,Go.Tw.gC] at c0 c1 c2;have HXX:=Lib.hid (HXW.out.trans hx1);have HX1:=Lib.hid hx1;clear kt hx1;have K0:=Lib.hid (k0.ext HX1.out);have hbr:=k1.ext HX1.out;have cr:=hbr.cell 0;have fr:=hbr.frozen 0;clear k0 k1
 by_cases he:t.err = 0
 . have HIE:Hid (Y2p t A0 B0 = if Q0g [Q3q t.size A0,Q3q t.size B0] = 0 then (if X9i t A0 then 22 else if X4g t B0 then 22 else if (List.finRange (2 ^ t.size)).all (fun x=>Z3g t A0 B0 x.1) then 0 else 22) else Q0g [Q3q t.size A0,Q3q t.size B0]):=Lib.hid (by unfold Y2p; rw [if_pos he])
   have hV:=Valid.of he;have HV:=Lib.hid hV;have HE0:=Lib.hid he;have hsz:=hV.size;have hne:(t.err != 0) = false:=by simp [he]
   clear he hV;obtain ⟨E1,hE1⟩:∃ E,Q3q t.size A0 = E:=⟨_,rfl⟩;obtain ⟨E2,hE2⟩:∃ E,Q3q t.size B0 = E:=⟨_,rfl⟩;obtain ⟨E,hE⟩:∃ E,Q0g [E1,E2] = E:=⟨_,rfl⟩;have HE:Hid (∀ (w':World) (u:Value),Q0e w' u [E1,E2] -> Calls Tryz.prog 48 #[u] w' fun e w''=>e = .returned (.int .i64 E) /\ w' = w''):=by
    exact (by intro w' u h; rw [<- hE]; exact first_any _ _ _ h:∀ (w':World) (u:Value),Q0e w' u [E1,E2] -> Calls Tryz.prog 48 #[u] w' fun e w''=>e = .returned (.int .i64 E) /\ w' = w'')
   have HCA:Hid (∀ (w':World) (v u:Value),IsTree w' v t -> Q1v w' u A0 -> Calls Tryz.prog 95 #[v,u] w' fun e w''=>e = .returned (.int .i64 E1) /\ Ext w' w''):=by
    exact (by intro w' v u h1 h2; rw [<- hE1]; exact X0l _ _ _ _ _ h1 h2:∀ (w':World) (v u:Value),IsTree w' v t -> Q1v w' u A0 -> Calls Tryz.prog 95 #[v,u] w' fun e w''=>e = .returned (.int .i64 E1) /\ Ext w' w'')
   have HCB:Hid (∀ (w':World) (v u:Value),IsTree w' v t -> Q1v w' u B0 -> Calls Tryz.prog 95 #[v,u] w' fun e w''=>e = .returned (.int .i64 E2) /\ Ext w' w''):=by
    exact (by intro w' v u h1 h2; rw [<- hE2]; exact X0l _ _ _ _ _ h1 h2:∀ (w':World) (v u:Value),IsTree w' v t -> Q1v w' u B0 -> Calls Tryz.prog 95 #[v,u] w' fun e w''=>e = .returned (.int .i64 E2) /\ Ext w' w'')
   have HF:Hid (E = 0 -> Q3q t.size A0 = 0 /\ Q3q t.size B0 = 0):=Lib.hid (by rw [<- hE,hE1,hE2,Q1h]; intro h; exact ⟨h _ (by simp),h _ (by simp)⟩)
   rw [hE1,hE2,hE] at HIE;have HT1:=Lib.hid (HT.out.ext HX1.out);have HU1:=Lib.hid (HU.out.ext HXX.out);have HZ1:=Lib.hid (HZ.out.ext HXX.out);have hdr:=(Ext.refl w1).drew;have HBR:=Lib.hid hbr;clear hE1 hE2 hE hbr cr fr
   gi_wp2
   refine wpIn_wide.2 ?_;refine Flow.Q2p [.w,.p,.w,.w,.p,.w,.w,.w,.p] [0,1,2,3,4,5,6,7,8] [[],[],[0,1],[],[],[2,3,4],[2,5],[5,6],[0,1,2,3,4,5,6,7]]
    [.c 0 (.agg #[.slice A t.basics.length capa,.slice B t.causes.length capb,.slice G t.gates.length capg]),.c 1 (.slice Au A0.length capu),.c 2 (.int .i64 E1),.c 3 (.agg #[.slice A t.basics.length capa,.slice B t.causes.length capb,.slice G t.gates.length capg]),.c 4 (.slice Az B0.length capz),.c 5 (.int .i64 E2),⟨fun v wz=>Q0e wz (v 6) [E1,E2],fun _ _ _ hx h=>h.ext hx⟩,.c 7 (.int .i64 E),.c 8 (.int .i64 E)]
    (by kernel_rfl) rfl (by kernel_rfl) ⟨?g0,?g1,?g2,?g3,?g4,?g5,?g6,?g7,?g8,trivial⟩ ?post
   case g0 | g3=>
    intro v w1 hx;intro bb hbb;intro K hK;have o1:bb.eval (.tmp 3) = .pointer (some ⟨w.heap.size,0,none⟩):=by rw [hbb]; dsimp only; (try simp (discharger:=decide) only [eval_put_ne]); rfl
    exact Q0n (.tmp 3) _ rfl Tryz.Q2n Tryz.Q0v o1 (K0.out.ext (hdr.trans hx)) rfl (hK _ _ (Ext.refl _) rfl)
   case g1 | g4=>
    intro v w1 hx;intro bb hbb;subst hbb;refine ⟨_,fun w=>?_,rfl⟩;go_simp
   case g2=>
    intro v w1 hx (q0:v 0 = .agg #[.slice A t.basics.length capa,.slice B t.causes.length capb,.slice G t.gates.length capg]) (q1:v 1 = .slice Au A0.length capu);intro bb hbb;subst hbb;intro K hK;go_simp;refine Q0d (HCA.out _ _ _ ⟨_,_,_,rfl,HT1.out.ext (hdr.trans hx)⟩ (HU1.out.ext (hdr.trans hx))) ?_;rintro e w2 ⟨rfl,hx2⟩;exact ⟨_,rfl,hK _ _ hx2 rfl⟩
   case g5=>
    intro v w1 hx (q2:v 2 = .int .i64 E1) (q3:v 3 = .agg #[.slice A t.basics.length capa,.slice B t.causes.length capb,.slice G t.gates.length capg]) (q4:v 4 = .slice Az B0.length capz);intro bb hbb;subst hbb;intro K hK;go_simp;refine Q0d (HCB.out _ _ _ ⟨_,_,_,rfl,HT1.out.ext (hdr.trans hx)⟩ (HZ1.out.ext (hdr.trans hx))) ?_;rintro e w2 ⟨rfl,hx2⟩;exact ⟨_,rfl,hK _ _ hx2 rfl⟩
   case g6=>
    intro v w1 hx (q2:v 2 = .int .i64 E1) (q5:v 5 = .int .i64 E2);intro bb hbb;subst hbb;intro K hK;go_simp;exact hK _ _ (Ext.box _ _) (Q3h (l:=[E1,E2]) (by simp))
   case g7=>
    intro v w1 hx (q5:v 5 = .int .i64 E2) (q6:Q0e w1 (v 6) [E1,E2]);intro bb hbb;subst hbb;intro K hK;go_simp;refine Q0d (HE.out _ _ q6) ?_;rintro e w2 ⟨rfl,rfl⟩;exact ⟨_,rfl,hK _ _ (Ext.refl _) rfl⟩
   case g8=>
    intro v w1 hx (q0:v 0 = .agg #[.slice A t.basics.length capa,.slice B t.causes.length capb,.slice G t.gates.length capg]) (q1:v 1 = .slice Au A0.length capu) (q2:v 2 = .int .i64 E1) (q3:v 3 = .agg #[.slice A t.basics.length capa,.slice B t.causes.length capb,.slice G t.gates.length capg]) (q4:v 4 = .slice Az B0.length capz) (q5:v 5 = .int .i64 E2) (q6:Q0e w1 (v 6) [E1,E2]) (q7:v 7 = .int .i64 E);intro bb hbb;subst hbb;refine ⟨_,fun w=>?_,rfl⟩;go_simp
   case post =>
    intro v w1 hx (q0:v 0 = .agg #[.slice A t.basics.length capa,.slice B t.causes.length capb,.slice G t.gates.length capg]) (q1:v 1 = .slice Au A0.length capu) (q2:v 2 = .int .i64 E1) (q3:v 3 = .agg #[.slice A t.basics.length capa,.slice B t.causes.length capb,.slice G t.gates.length capg]) (q4:v 4 = .slice Az B0.length capz) (q5:v 5 = .int .i64 E2) (q6:Q0e w1 (v 6) [E1,E2]) (q7:v 7 = .int .i64 E) (q8:v 8 = .int .i64 E);simp only [Flow.All,Flow.acts,Act.put];go_simp;have hxx:=hdr.trans hx;have HXX2:=Lib.hid (HXX.out.trans hxx);have K2:=K0.out.ext hxx;have hbr:=HBR.out.ext hxx;have cr:=hbr.cell 0;have fr:=hbr.frozen 0;replace HX1:=Lib.hid (HX1.out.trans hxx);have c0:=K2.cell 0;have c1:=K2.cell 1;have c2:=K2.cell 2;simp only [Go.Tw.gA,Go.Tw.gB,Go.Tw.gC] at c0 c1 c2 cr;have HU2:=Lib.hid (HU.out.ext HXX2.out);have HZ2:=Lib.hid (HZ.out.ext HXX2.out);have HBR2:=Lib.hid hbr;clear hxx hx HCA HCB HE K2 hdr K0 HBR HU1 HZ1 HT1 hbr
    by_cases hE0:E = 0
    . have hne2:(E != 0) = false:=by simp [hE0]
      have HIE2:Hid (Y2p t A0 B0 = if X9i t A0 then 22 else if X4g t B0 then 22 else if (List.finRange (2 ^ t.size)).all (fun x=>Z3g t A0 B0 x.1) then 0 else 22):=Lib.hid (by rw [HIE.out,if_pos hE0])
      have hSA:=Y2l (HF.out hE0).1;have hSB:=Y2l (HF.out hE0).2;have hs1:0 < t.size:=by have:=HV.out.nb; unfold Tree.size; omega
      have HMA:=Lib.hid (Y6a hsz hs1 hSA.2);have HMB:=Lib.hid (Y6a hsz hs1 hSB.2);have HSA:=Lib.hid hSA;have HSB:=Lib.hid hSB;clear hE0 HIE HF hSA hSB
      gi_wp2_with (refine ⟨trivial,?_⟩; gi_at_call 70; refine halted ?_)
      clear cr fr;refine (callsIn_wide.2 (Q3i _ _ t HV.out ⟨_,_,_,rfl,HT.out.ext HX1.out⟩)).mono ?_;rintro e w2 ⟨fv,gv,rfl,hn,hx2⟩;obtain ⟨A1,cap1,rfl,_,_,_⟩:=hn.fails.opened;obtain ⟨A2,cap2,rfl,_,_,_⟩:=hn.gates.opened;rw [Q2g] at hn ⊢;have HN:=Lib.hid hn;have HX2:=Lib.hid hx2;clear hn hx2 c0 c1 c2
      gi_wp2_with (first | (refine Q6x rfl _ _ 129 rfl Tryz.Q0r rfl rfl (Blk.made _ _ _) rfl rfl ?_ ?_; (focus (intro u hu; simp [outA] at hu; rcases hu with rfl | rfl | rfl | rfl | rfl | rfl | rfl | rfl | rfl | rfl | rfl | rfl | rfl | rfl | rfl | rfl <;> rfl)); intro w9 hb9 hl9 ho9) | (refine ⟨trivial,?_⟩; gi_at_call 96; refine halted ?_))
      have hx9:Ext w2 w9:=Below.trans (Ext.box w2 _) (hl9 _ (Nat.le_refl _));have HXX9:Hid (Ext w w9):=by exact (HXX2.out.trans HX2.out).trans hx9
      have HN9:=Lib.hid (HN.out.ext hx9);have HB9:Hid (Blk w9 w2.heap.size 129 (outA t.size (.slice A1 t.size cap1) t.Q0b t.basics.length (.slice A2 t.gates.length cap2))):=by exact hb9
      have HBR9:=Lib.hid ((HBR2.out.ext HX2.out).ext hx9);clear hl9 ho9 hb9 hx9 HBR2 HU2 HZ2;refine (callsIn_wide.2 (X6g _ _ A0 (HU.out.ext HXX9.out) (by have:=HSA.out.1; omega) (fun l hl x hx=>by have:=HSA.out.2 l hl x hx; omega))).mono ?_
      rintro e w10 ⟨x1,rfl,hi1,hx10⟩;obtain ⟨P1,n1,rfl,_,_,_⟩:=hi1.opened;rw [List.length_map] at hi1;have HI1:=Lib.hid hi1;have HX10:=Lib.hid hx10;clear hi1 hx10
      gi_wp2_with (refine ⟨trivial,?_⟩; gi_at_call 96; refine halted ?_)
      refine (callsIn_wide.2 (X6g _ _ B0 (HZ.out.ext (HXX9.out.trans HX10.out)) (by have:=HSB.out.1; omega) (fun l hl x hx=>by have:=HSB.out.2 l hl x hx; omega))).mono ?_
      rintro e w11 ⟨x2,rfl,hi2,hx11⟩;obtain ⟨P2,n2,rfl,_,_,_⟩:=hi2.opened;rw [List.length_map] at hi2;have HI2:=Lib.hid hi2;have HX11:=Lib.hid (HX10.out.trans hx11);have HX10b:=Lib.hid hx11;clear hi2 hx11 HX10
      gi_wp2_with (first | (refine Q4l rfl _ 129 rfl Tryz.Q1s Tryz.Q0r rfl ((HB9.out.ext HX11.out).ext ((Ext.box _ _).trans (Ext.box _ _))) rfl ?_) | (refine ⟨trivial,?_⟩; gi_at_call 97; refine halted ?_))
      change CallsIn _ _ _ _ _ ((w11.alloc (.cells #[.slice P1 A0.length n1] 40)).alloc (.cells #[.slice P2 B0.length n2] 40)) _;obtain ⟨W,hWW,k0,k1,HXW,eW⟩:=Q5l w11 40 #[.slice P1 A0.length n1] 40 #[.slice P2 B0.length n2];rw [hWW];clear hWW;have HX9W:=Lib.hid (HX11.out.trans HXW.out);have HNW:=Lib.hid (HN9.out.ext HX9W.out);have HBW:=Lib.hid (HB9.out.ext HX9W.out);have HBRW:=Lib.hid (HBR9.out.ext HX9W.out);have HXXW:=Lib.hid (HXX9.out.trans HX9W.out);have HG1:=Lib.hid k0;have HG2:=Lib.hid k1;obtain ⟨b1,hb1⟩:∃ c,X9i t A0 = c:=⟨_,rfl⟩;obtain ⟨b2,hb2⟩:∃ c,X4g t B0 = c:=⟨_,rfl⟩;have HLA:Hid (Q0e w11 (.slice P1 A0.length n1) (A0.map fun l=>(Q1n l:Int)) -> Calls Tryz.prog 97 #[.slice P1 A0.length n1,.func (.func 73) #[noV t t.Q0b (.slice A1 t.size cap1) (.slice A2 t.gates.length cap2)] #[]] W fun e w''=>e = .returned (.bool b1) /\ Ext W w''):=by
       exact (by
        intro h;rw [<- hb1];exact Y5o W _ (A0.map fun l=>(Q1n l:Int)) 73 _ (fun x=>t.fails (evN x.toNat)) (h.ext HXW.out) (enters_of Tryz.func73 (by kernel_rfl) rfl) (fun W' x hx hm=>by
         have hb:=HMA.out x hm;obtain ⟨a,rfl⟩:∃ a:Nat,x = (a:Int):=⟨x.toNat,by omega⟩
         rw [Int.toNat_natCast] at hb;rw [Int.toNat_natCast];exact Q7t W' _ _ t t.Q0b a HV.out hb.2 (HNW.out.ext hx)):Q0e w11 (.slice P1 A0.length n1) (A0.map fun l=>(Q1n l:Int)) -> Calls Tryz.prog 97 #[.slice P1 A0.length n1,.func (.func 73) #[noV t t.Q0b (.slice A1 t.size cap1) (.slice A2 t.gates.length cap2)] #[]] W fun e w''=>e = .returned (.bool b1) /\ Ext W w'')
      have HLB:Hid (∀ w',Ext W w' -> Calls Tryz.prog 97 #[.slice P2 B0.length n2,.func (.func 89) #[noV t t.Q0b (.slice A1 t.size cap1) (.slice A2 t.gates.length cap2)] #[]] w' fun e w''=>e = .returned (.bool b2) /\ Ext w' w''):=by
       exact (by
        intro w' hw';rw [<- hb2];exact Y5o w' _ (B0.map fun l=>(Q1n l:Int)) 89 _ (fun x=>!t.fails (evN (Q5r t x.toNat))) ((HI2.out.ext HXW.out).ext hw') (enters_of Tryz.func89 (by kernel_rfl) rfl) (fun W' x hx hm=>by
         have hb:=HMB.out x hm;obtain ⟨a,rfl⟩:∃ a:Nat,x = (a:Int):=⟨x.toNat,by omega⟩
         rw [Int.toNat_natCast] at hb;rw [Int.toNat_natCast];exact Y5w W' _ _ t t.Q0b a HV.out hb.2 ((HNW.out.ext hw').ext hx)):∀ w',Ext W w' -> Calls Tryz.prog 97 #[.slice P2 B0.length n2,.func (.func 89) #[noV t t.Q0b (.slice A1 t.size cap1) (.slice A2 t.gates.length cap2)] #[]] w' fun e w''=>e = .returned (.bool b2) /\ Ext w' w'')
      rw [hb1,hb2] at HIE2;clear k0 k1 hb1 hb2;refine (callsIn_wide.2 (HLA.out (by exact HI1.out.ext (by exact HX10b.out)))).mono ?_
      rintro e w13 ⟨rfl,hx13⟩;have HBR13:=Lib.hid (HBRW.out.ext hx13);have cr:=HBR13.out.cell 0;have fr:=HBR13.out.frozen 0;simp only [Go.Tw.gA,Go.Tw.gB] at cr;have g1:=(HG1.out.ext hx13).cell 0;have g2:=(HG2.out.ext hx13).cell 0;simp only [Go.Tw.gA,Go.Tw.gB] at g1 g2;have HB13:=Lib.hid (HBW.out.ext hx13);have HX13:=Lib.hid hx13;have HXX13:=Lib.hid (HXXW.out.trans hx13);clear hx13;cases b1 with
      | true =>
        gi_wp2_with fail
        refine ⟨fun _ _=>trivial,?_⟩
        gi_wp2
        refine ⟨_,Q5u rfl rfl (World.cell?_setCell_same _ _ _ cr),by rw [HIE2.out]; rfl,HXX13.out.setCell (p:=⟨w.heap.size + 1,0,none⟩) (by show w.heap.size <= w.heap.size + 1; omega) _⟩
      | false =>
        gi_wp2_with (first | (refine Q4l (by go_simp) _ 129 rfl Tryz.Q1s Tryz.Q0r rfl HB13.out rfl ?_) | (refine ⟨trivial,?_⟩; gi_at_call 97; refine halted ?_))
        refine (callsIn_wide.2 (HLB.out w13 HX13.out)).mono ?_;rintro e w14 ⟨rfl,hx14⟩;replace cr:=hx14.cell cr;replace fr:=(HBR13.out.ext hx14).frozen 0;replace g1:=hx14.cell g1;replace g2:=hx14.cell g2;have HBR14:=Lib.hid (HBR13.out.ext hx14);have HB14:=Lib.hid (HB13.out.ext hx14);have HX14:=Lib.hid (HX13.out.trans hx14);have HXX14:=Lib.hid (HXX13.out.trans hx14);clear hx14;cases b2 with
        | true =>
          gi_wp2
          refine ⟨_,Q5u rfl rfl (World.cell?_setCell_same _ _ _ cr),by rw [HIE2.out]; rfl,HXX14.out.setCell (p:=⟨w.heap.size + 1,0,none⟩) (by show w.heap.size <= w.heap.size + 1; omega) _⟩
        | false =>
          obtain ⟨W5,hst,hb5,hx5⟩:∃ W5,(store ⟨w14.heap.size,0,none⟩ (Value.func (Fn.func 99) #[] #[])).run Tryz.prog (w14.alloc (.cells #[.nilFunc] 156)) = .ok () W5 /\ Blk W5 w14.heap.size 156 #[.func (.func 99) #[] #[]] /\ Ext w14 W5:=by
           have hb:=Blk.made w14 156 #[.nilFunc];have h0:=hb.cell 0;simp only [Go.Tw.gA,Go.Tw.gB] at h0;refine ⟨_,?_,hb.set 0 _,Below.trans (Ext.box w14 _) ((Below.refl _ _).setCell (p:=⟨w14.heap.size,0,none⟩) (Nat.le_refl _) _)⟩;rw [run_store Tryz.prog _ _ _ _ rfl];simp only [h0,hb.frozen 0,Bool.false_eq_true,if_false]
          have HB15:=Lib.hid (HB14.out.ext hx5);have HX15:=Lib.hid hx5;have HF15:=Lib.hid hb5;clear hx5 hb5
          gi_wp2_with (first | (refine Q6z rfl _ 126 rfl Tryz.Z7l Tryz.Y8l rfl (X0s HB15.out) rfl ?_) | (refine ⟨trivial,?_⟩; gi_at_call 94; refine halted ?_))
          change CallsIn _ _ _ _ #[evV t t.Q0b (.slice A1 t.size cap1)] W5 _;refine (callsIn_wide.2 (X1d _ t t.Q0b A1 t.size cap1)).mono ?_;rintro e w' ⟨rfl,hce,hse,hxe⟩;have hxa:=HX15.out.trans hxe;have hxb:=HX14.out.trans hxa;have HK1:=Lib.hid (HB15.out.ext hxe);have HKF:=Lib.hid (HF15.out.ext hxe);have HKA:=Lib.hid (HG1.out.ext hxb);have HKB:=Lib.hid (HG2.out.ext hxb);have HKR:=Lib.hid (HBR14.out.ext hxa);have HN':=Lib.hid (HNW.out.ext hxb);have HIA:=Lib.hid ((HI1.out.ext HX10b.out).ext (HXW.out.trans hxb));have HIB:=Lib.hid (HI2.out.ext (HXW.out.trans hxb));have HXXE:=Lib.hid (HXX14.out.trans hxa);obtain ⟨b,hb⟩:∃ b,W5.heap.size = b:=⟨_,rfl⟩;rw [hb] at hce hse ⊢;obtain ⟨f,hf⟩:∃ f,w14.heap.size = f:=⟨_,rfl⟩;obtain ⟨g,hg⟩:∃ g,w2.heap.size = g:=⟨_,rfl⟩;obtain ⟨h,hh⟩:∃ h,w11.heap.size = h:=⟨_,rfl⟩;rw [hf] at HKF ⊢;rw [hg] at HK1 ⊢;rw [hh] at HKA HKB ⊢;clear hf hg hh hb cr fr g1 g2 hst hxa hxb hxe
          gi_wp2
          refine wpIn_rangeFunc_ownF (n:=9) rfl (by omega) (gf:=138) (lb:=#[.pointer (some ⟨b,0,none⟩)]) rfl trivial (enters_of Tryz.func138 (by kernel_rfl) rfl)
           (X0b _ b (2 ^ t.size) w' t rfl hsz hce) (fun _ _=>trivial) (fun _ _ _ _ _ _ _ _=>trivial) (Below.refl _ _) (fun _=>rfl)
           (fun pre W=>(∀ x ∈ pre,Z3g t A0 B0 x.1 = true) /\ Below w'.heap.size w' W)
           (fun c pre W=>(c = .ret /\ ∃ x:Fin (2 ^ t.size),Z3g t A0 B0 x.1 = false) /\ Blk W (w.heap.size + 1) 34 #[.int .i64 22] /\ Below (w.heap.size + 1) w' W)
           (OwnFrom.and (fun _ _ _ _ hs _ _=>hs) (ownFrom_below (Nat.le_refl _) (Nat.le_refl _)))
           (fun c=>OwnFrom.and (fun _ _ _ _ hs _ _=>hs) (OwnFrom.and (Own.from (Blk.own _ _ (fun _=>#[.int .i64 22])) _) (ownFrom_below (by have:=HKR.out.lt; omega) (by have:=HKR.out.lt; omega))))
           ⟨by simp,Below.refl _ _⟩
           (fun x=>{ tmps:=#[.agg #[.slice A t.basics.length capa,.slice B t.causes.length capb,.slice G t.gates.length capg],.slice Au A0.length capu,.slice Az B0.length capz,.pointer (some ⟨w.heap.size,0,none⟩),undef,undef,.pointer (some ⟨w.heap.size + 1,0,none⟩),.int .i64 t.err,.int .i64 E,.pointer (some ⟨g,0,none⟩),.pointer (some ⟨h,0,none⟩),.pointer (some ⟨h + 1,0,none⟩),.func (.func 97) #[] #[],.pointer (some ⟨f,0,none⟩),.int .i64 x.1,.agg #[.slice A t.basics.length capa,.slice B t.causes.length capb,.slice G t.gates.length capg],.int .i64 t.err,.int .i64 t.err,.bool false,undef,.agg #[.slice A t.basics.length capa,.slice B t.causes.length capb,.slice G t.gates.length capg],.slice Au A0.length capu,.int .i64 E1,.agg #[.slice A t.basics.length capa,.slice B t.causes.length capb,.slice G t.gates.length capg],.slice Az B0.length capz,.int .i64 E2,v 6,.int .i64 E,.int .i64 E,.bool false,undef,.agg #[.slice A t.basics.length capa,.slice B t.causes.length capb,.slice G t.gates.length capg],noV t t.Q0b (.slice A1 t.size cap1) (.slice A2 t.gates.length cap2),.slice Au A0.length capu,.slice P1 A0.length n1,.slice Az B0.length capz,.slice P2 B0.length n2,.func (.func 97) #[] #[],.slice P1 A0.length n1,.agg (outA t.size (.slice A1 t.size cap1) t.Q0b t.basics.length (.slice A2 t.gates.length cap2)),.func (.func 73) #[.agg (outA t.size (.slice A1 t.size cap1) t.Q0b t.basics.length (.slice A2 t.gates.length cap2))] #[],.bool false,.bool false,.func (.func 97) #[] #[],.slice P2 B0.length n2,.agg (outA t.size (.slice A1 t.size cap1) t.Q0b t.basics.length (.slice A2 t.gates.length cap2)),.func (.func 89) #[.agg (outA t.size (.slice A1 t.size cap1) t.Q0b t.basics.length (.slice A2 t.gates.length cap2))] #[],.bool false,.bool false,.pointer (some ⟨g,0,none⟩),evV t t.Q0b (.slice A1 t.size cap1),.func (.func 138) #[] #[.pointer (some ⟨b,0,none⟩)],.int .i64 x.1,undef,undef,undef,undef,undef,undef,undef,undef,undef,undef,undef,undef,undef,undef,undef,undef],defers:=[] }) ?assign ?body ?done ?stop
          case assign =>
           intro l x W K hK
           gi_wp2
           exact hK
          case stop =>
           rintro D c pre W hD _ ⟨⟨rfl,x,hx⟩,hb,hB⟩ hK
           gi_wp2
           refine ⟨by simp,.inl ⟨_,_,rfl,run_takeDeferred hK,?_⟩⟩
           have hcx:(List.finRange (2 ^ t.size)).all (fun x=>Z3g t A0 B0 x.1) = false:=by rw [List.all_eq_false]; exact ⟨x,List.mem_finRange x,by rw [hx]; decide⟩
           exact ⟨_,Q5u rfl rfl (cell_kept (hb.cell 0) (grownBy_putObj' _ D (.deferred none)) (fun r e=>by cases e; exact ⟨_,hK,rfl⟩)),by rw [HIE2.out,hcx]; rfl,Below.trans (Below.trans HXXE.out (hB.mono (by omega))) (belowK_b (w:=w) (Nat.le_refl _) W D _ _ (by have:=HXXE.out.size; omega) hK rfl rfl)⟩
          case done =>
           rintro D ys W hD rfl ⟨hI,hB⟩ hK;have hbr:=HKR.out.below hB HKR.out.lt;have cr:=hbr.cell 0;have fr:=hbr.frozen 0;simp only [Go.Tw.gA,Go.Tw.gB] at cr;have HBR:=Lib.hid hbr;have HCX:Hid ((List.finRange (2 ^ t.size)).all (fun x=>Z3g t A0 B0 x.1) = true):=Lib.hid (by rw [List.all_eq_true]; exact hI)
           have hrl:=HKR.out.lt;clear hbr hI
           gi_wp2
           have hK2:=(Q7d W ⟨w.heap.size + 1,0,none⟩ (.int .i64 0) D (by show D ≠ w.heap.size + 1; omega)).trans hK
           refine ⟨by simp,.inl ⟨_,_,rfl,run_takeDeferred hK2,?_⟩⟩
           exact ⟨_,Q5u rfl rfl (cell_kept ((HBR.out.set 0 (.int .i64 0)).cell 0) (grownBy_putObj' _ D (.deferred none)) (fun r e=>by cases e; exact ⟨_,hK2,rfl⟩)),by rw [HIE2.out,HCX.out]; rfl,Below.trans ((Below.trans HXXE.out (hB.mono (by omega))).setCell (p:=⟨w.heap.size + 1,0,none⟩) (by show w.heap.size <= w.heap.size + 1; omega) _) (belowK_b (w:=w) (Nat.le_refl _) _ D _ _ (by have:=HXXE.out.size; omega) hK2 rfl rfl)⟩
          case body =>
           rintro l pre ⟨x,hxN⟩ W ⟨hI,hB⟩ hpl;dsimp only;have h12:(2:Nat) ^ t.size <= 2 ^ 12:=Nat.pow_le_pow_right (by omega) hsz
           have cf:=(HKF.out.below hB HKF.out.lt).cell 0;have ca:=(HKA.out.below hB HKA.out.lt).cell 0;have cb:=(HKB.out.below hB HKB.out.lt).cell 0;have hbr:=HKR.out.below hB HKR.out.lt;simp only [Go.Tw.gA,Go.Tw.gB] at cf ca cb;have HB1:=Lib.hid (HK1.out.below hB HK1.out.lt);have hbd1:∀ x ∈ A0.map (fun l=>(Q1n l:Int)),0 <= x /\ x < 2 ^ 62:=fun x hx=>by have:=HMA.out x hx; omega
           have hbd2:∀ x ∈ B0.map (fun l=>(Q1n l:Int)),0 <= x /\ x < 2 ^ 62:=fun x hx=>by have:=HMB.out x hx; omega
           have hol:=X7y t x;have HH1:=Lib.hid (fun w'' (hx:Ext W w'')=>Y1p w'' _ (A0.map fun l=>(Q1n l:Int)) x ((HIA.out.ext hB).ext hx) (by omega) hbd1)
           have HH2:=Lib.hid (fun w'' (hx:Ext W w'')=>Y1p w'' _ (B0.map fun l=>(Q1n l:Int)) (Q5r t x) ((HIB.out.ext hB).ext hx) (by omega) hbd2)
           have HALL:=Lib.hid (fun w''=>Z0i w'' t t.Q0b A1 t.size cap1 hsz);have han:=Q9s (a:=2 ^ t.size - 1) (b:=x) (by omega) (by omega)
           have HCV:Hid (Z3g t A0 B0 x = (Z3w x (A0.map fun l=>(Q1n l:Int)) || Z3w (Q5r t x) (B0.map fun l=>(Q1n l:Int)))):=by exact (rfl:Z3g t A0 B0 x = _)
           obtain ⟨Z,hZ⟩:∃ Z,Q5r t x = Z:=⟨_,rfl⟩;have hZ':Q2m (2 ^ t.size - 1) x = Z:=hZ;obtain ⟨Y,hY⟩:∃ Y,2 ^ t.size - 1 = Y:=⟨_,rfl⟩;rw [hZ',hY] at han;rw [hY] at HALL;rw [hZ] at HH2 HCV;obtain ⟨u1,hu1⟩:∃ u,Z3w x (A0.map fun l=>(Q1n l:Int)) = u:=⟨_,rfl⟩
           obtain ⟨u2,hu2⟩:∃ u,Z3w Z (B0.map fun l=>(Q1n l:Int)) = u:=⟨_,rfl⟩
           rw [hu1] at HH1 HCV;rw [hu2] at HH2 HCV;have eg:=enters_of Tryz.func99 (by kernel_rfl) rfl
           have HBE:=Lib.hid hB;have HI:=Lib.hid hI;have HBR:=Lib.hid hbr;have hdr:=(Ext.refl W).drew;have hrl:=HKR.out.lt;have hsz':=hB.size;clear hZ hZ' hY hu1 hu2 hB hI hbd1 hbd2 hol h12 hpl hbr
           gi_wp2
           refine Flow.Y0k [.w,.p,.w,.w,.p,.p,.w,.p,.w,.w,.p,.p,.w,.w,.p,.p] [0,1,2,3,4,5,6,7,8,9,10,11,12,13,14,15] [[],[],[],[0,1,2],[3],[3,4],[5],[5],[5,7],[5,8],[5],[5,9,10],[5],[5,6,9,11,12],[5,13],[5,14]]
            [.c 0 (.func (.func 99) #[] #[]),.c 1 (.int .i64 x),.c 2 (.slice P1 A0.length n1),.c 3 (.bool u1),.c 4 (.bool (!u1)),.c 5 (.bool (!u1)),.c 6 (Q2o u1 (.func (.func 99) #[] #[])),.c 7 (Q2o u1 (.pointer (some ⟨g,0,none⟩))),.c 8 (Q2o u1 (evV t t.Q0b (.slice A1 t.size cap1))),.c 9 (Q2o u1 (.int .i64 (Y:Nat))),.c 10 (Q2o u1 (.int .i64 x)),.c 11 (Q2o u1 (.int .i64 (Z:Nat))),.c 12 (Q2o u1 (.slice P2 B0.length n2)),.c 13 (Q2o u1 (.bool u2)),.c 14 (Q2o u1 (.bool (!u2))),.c 15 (.bool (!u1 && !u2))]
            (by kernel_rfl) (by kernel_rfl) rfl (by kernel_rfl) ⟨?g0,?g1,?g2,?g3,?g4,?g5,?g6,?g7,?g8,?g9,?g10,?g11,?g12,?g13,?g14,?g15,trivial⟩ ?post
           case g0 | g2=>
            intro v w1 hx;intro bb hbb;subst hbb;have cf:=hx.cell cf;have ca:=hx.cell ca;have cb:=hx.cell cb;intro K hK;go_simp;exact hK _ _ (Ext.refl _) rfl
           case g1=>
            intro v w1 hx;intro bb hbb;subst hbb;refine ⟨_,fun w=>?_,rfl⟩;go_simp
           case g3=>
            intro v w1 hx (q0:v 0 = .func (.func 99) #[] #[]) (q1:v 1 = .int .i64 x) (q2:v 2 = .slice P1 A0.length n1);intro bb hbb;subst hbb;have cf:=hx.cell cf;have ca:=hx.cell ca;have cb:=hx.cell cb;intro K hK;go_simp;refine Q0d (HH1.out w1 (hdr.trans hx)) ?_;rintro e w2 ⟨rfl,hx2⟩;exact ⟨_,rfl,hK _ _ hx2 rfl⟩
           case g4=>
            intro v w1 hx (q3:v 3 = .bool u1);intro bb hbb;subst hbb;have cf:=hx.cell cf;have ca:=hx.cell ca;have cb:=hx.cell cb;refine ⟨_,fun w=>?_,rfl⟩;go_simp
           case g5=>
            intro v w1 hx (q3:v 3 = .bool u1) (q4:v 4 = .bool (!u1));intro bb hbb;subst hbb;have cf:=hx.cell cf;have ca:=hx.cell ca;have cb:=hx.cell cb;refine ⟨_,fun w=>?_,rfl⟩;go_simp
           case g6 | g12=>
            intro v w1 hx (q5:v 5 = .bool (!u1));intro bb hbb;have cf:=hx.cell cf;have ca:=hx.cell ca;have cb:=hx.cell cb;cases u1 with
            | true=>exact Flow.Q2c (d:=58) rfl rfl (by rw [hbb]; simp only [size_put]; exact (by decide:58 < 69)) (by rw [hbb]; dsimp only; (try simp (discharger:=decide) only [eval_put_ne]); rw [Q0a (by simp only [size_put]; exact (by decide:58 < 69))]; exact q5) rfl
            | false =>
              refine Flow.Q0p (d:=58) rfl rfl (by rw [hbb]; simp only [size_put]; exact (by decide:58 < 69)) (by rw [hbb]; dsimp only; (try simp (discharger:=decide) only [eval_put_ne]); rw [Q0a (by simp only [size_put]; exact (by decide:58 < 69))]; exact q5) ?_
              subst hbb;intro K hK;go_simp;exact hK _ _ (Ext.refl _) rfl
           case g7 | g10=>
            intro v w1 hx (q5:v 5 = .bool (!u1));intro bb hbb;have cf:=hx.cell cf;have ca:=hx.cell ca;have cb:=hx.cell cb;cases u1 with
            | true=>exact Flow.Q2c (d:=58) rfl rfl (by rw [hbb]; simp only [size_put]; exact (by decide:58 < 69)) (by rw [hbb]; dsimp only; (try simp (discharger:=decide) only [eval_put_ne]); rw [Q0a (by simp only [size_put]; exact (by decide:58 < 69))]; exact q5) rfl
            | false =>
              refine Flow.Q0p (d:=58) rfl rfl (by rw [hbb]; simp only [size_put]; exact (by decide:58 < 69)) (by rw [hbb]; dsimp only; (try simp (discharger:=decide) only [eval_put_ne]); rw [Q0a (by simp only [size_put]; exact (by decide:58 < 69))]; exact q5) ?_
              subst hbb;refine ⟨_,fun w=>?_,rfl⟩;go_simp
           case g8=>
            intro v w1 hx (q5:v 5 = .bool (!u1)) (q7:v 7 = Q2o u1 (.pointer (some ⟨g,0,none⟩)));intro bb hbb;have cf:=hx.cell cf;have ca:=hx.cell ca;have cb:=hx.cell cb;cases u1 with
            | true=>exact Flow.Q2c (d:=58) rfl rfl (by rw [hbb]; simp only [size_put]; exact (by decide:58 < 69)) (by rw [hbb]; dsimp only; (try simp (discharger:=decide) only [eval_put_ne]); rw [Q0a (by simp only [size_put]; exact (by decide:58 < 69))]; exact q5) rfl
            | false =>
              replace q7:v 7 = .pointer (some ⟨g,0,none⟩):=q7;refine Flow.Q0p (d:=58) rfl rfl (by rw [hbb]; simp only [size_put]; exact (by decide:58 < 69)) (by rw [hbb]; dsimp only; (try simp (discharger:=decide) only [eval_put_ne]); rw [Q0a (by simp only [size_put]; exact (by decide:58 < 69))]; exact q5) ?_
              intro K hK;have o1:bb.eval (.tmp 60) = .pointer (some ⟨g,0,none⟩):=by rw [hbb]; dsimp only; (try simp (discharger:=decide) only [eval_put_ne]); rw [Q0a (by simp only [size_put]; exact (by decide:60 < 69))]; exact q7
              exact Q2q (.tmp 60) _ rfl Tryz.Z7l Tryz.Y8l o1 ((X0s HB1.out).ext (hdr.trans hx)) rfl (hK _ _ (Ext.refl _) rfl)
           case g9=>
            intro v w1 hx (q5:v 5 = .bool (!u1)) (q8:v 8 = Q2o u1 (evV t t.Q0b (.slice A1 t.size cap1)));intro bb hbb;have cf:=hx.cell cf;have ca:=hx.cell ca;have cb:=hx.cell cb;cases u1 with
            | true=>exact Flow.Q2c (d:=58) rfl rfl (by rw [hbb]; simp only [size_put]; exact (by decide:58 < 69)) (by rw [hbb]; dsimp only; (try simp (discharger:=decide) only [eval_put_ne]); rw [Q0a (by simp only [size_put]; exact (by decide:58 < 69))]; exact q5) rfl
            | false =>
              replace q8:v 8 = evV t t.Q0b (.slice A1 t.size cap1):=q8;refine Flow.Q0p (d:=58) rfl rfl (by rw [hbb]; simp only [size_put]; exact (by decide:58 < 69)) (by rw [hbb]; dsimp only; (try simp (discharger:=decide) only [eval_put_ne]); rw [Q0a (by simp only [size_put]; exact (by decide:58 < 69))]; exact q5) ?_
              subst hbb;intro K hK;go_simp;refine Q0d (HALL.out w1) ?_;rintro e w2 ⟨rfl,hx2⟩;exact ⟨_,rfl,hK _ _ hx2 rfl⟩
           case g11=>
            intro v w1 hx (q5:v 5 = .bool (!u1)) (q9:v 9 = Q2o u1 (.int .i64 (Y:Nat))) (q10:v 10 = Q2o u1 (.int .i64 x));intro bb hbb;have cf:=hx.cell cf;have ca:=hx.cell ca;have cb:=hx.cell cb;cases u1 with
            | true=>exact Flow.Q2c (d:=58) rfl rfl (by rw [hbb]; simp only [size_put]; exact (by decide:58 < 69)) (by rw [hbb]; dsimp only; (try simp (discharger:=decide) only [eval_put_ne]); rw [Q0a (by simp only [size_put]; exact (by decide:58 < 69))]; exact q5) rfl
            | false =>
              replace q9:v 9 = .int .i64 (Y:Nat):=q9;replace q10:v 10 = .int .i64 x:=q10;refine Flow.Q0p (d:=58) rfl rfl (by rw [hbb]; simp only [size_put]; exact (by decide:58 < 69)) (by rw [hbb]; dsimp only; (try simp (discharger:=decide) only [eval_put_ne]); rw [Q0a (by simp only [size_put]; exact (by decide:58 < 69))]; exact q5) ?_
              subst hbb;refine ⟨_,fun w=>?_,rfl⟩;go_simp
           case g13=>
            intro v w1 hx (q5:v 5 = .bool (!u1)) (q6:v 6 = Q2o u1 (.func (.func 99) #[] #[])) (q9:v 9 = Q2o u1 (.int .i64 (Y:Nat))) (q11:v 11 = Q2o u1 (.int .i64 (Z:Nat))) (q12:v 12 = Q2o u1 (.slice P2 B0.length n2));intro bb hbb;have cf:=hx.cell cf;have ca:=hx.cell ca;have cb:=hx.cell cb;cases u1 with
            | true=>exact Flow.Q2c (d:=58) rfl rfl (by rw [hbb]; simp only [size_put]; exact (by decide:58 < 69)) (by rw [hbb]; dsimp only; (try simp (discharger:=decide) only [eval_put_ne]); rw [Q0a (by simp only [size_put]; exact (by decide:58 < 69))]; exact q5) rfl
            | false =>
              replace q6:v 6 = .func (.func 99) #[] #[]:=q6;replace q9:v 9 = .int .i64 (Y:Nat):=q9;replace q11:v 11 = .int .i64 (Z:Nat):=q11;replace q12:v 12 = .slice P2 B0.length n2:=q12;refine Flow.Q0p (d:=58) rfl rfl (by rw [hbb]; simp only [size_put]; exact (by decide:58 < 69)) (by rw [hbb]; dsimp only; (try simp (discharger:=decide) only [eval_put_ne]); rw [Q0a (by simp only [size_put]; exact (by decide:58 < 69))]; exact q5) ?_
              subst hbb;intro K hK;go_simp;refine Q0d (HH2.out w1 (hdr.trans hx)) ?_;rintro e w2 ⟨rfl,hx2⟩;exact ⟨_,rfl,hK _ _ hx2 rfl⟩
           case g14=>
            intro v w1 hx (q5:v 5 = .bool (!u1)) (q13:v 13 = Q2o u1 (.bool u2));intro bb hbb;have cf:=hx.cell cf;have ca:=hx.cell ca;have cb:=hx.cell cb;cases u1 with
            | true=>exact Flow.Q2c (d:=58) rfl rfl (by rw [hbb]; simp only [size_put]; exact (by decide:58 < 69)) (by rw [hbb]; dsimp only; (try simp (discharger:=decide) only [eval_put_ne]); rw [Q0a (by simp only [size_put]; exact (by decide:58 < 69))]; exact q5) rfl
            | false =>
              replace q13:v 13 = .bool u2:=q13;refine Flow.Q0p (d:=58) rfl rfl (by rw [hbb]; simp only [size_put]; exact (by decide:58 < 69)) (by rw [hbb]; dsimp only; (try simp (discharger:=decide) only [eval_put_ne]); rw [Q0a (by simp only [size_put]; exact (by decide:58 < 69))]; exact q5) ?_
              subst hbb;refine ⟨_,fun w=>?_,rfl⟩;go_simp
           case g15=>
            intro v w1 hx (q5:v 5 = .bool (!u1)) (q14:v 14 = Q2o u1 (.bool (!u2)));intro bb hbb;subst hbb;have cf:=hx.cell cf;have ca:=hx.cell ca;have cb:=hx.cell cb;refine ⟨.bool (!u1 && !u2),fun w=>?_,rfl⟩;cases u1 with
            | true=>go_simp
            | false=>go_simp; rfl
           case post =>
            intro v w1 hx (q0:v 0 = .func (.func 99) #[] #[]) (q1:v 1 = .int .i64 x) (q2:v 2 = .slice P1 A0.length n1) (q3:v 3 = .bool u1) (q4:v 4 = .bool (!u1)) (q5:v 5 = .bool (!u1)) (q6:v 6 = Q2o u1 (.func (.func 99) #[] #[])) (q7:v 7 = Q2o u1 (.pointer (some ⟨g,0,none⟩))) (q8:v 8 = Q2o u1 (evV t t.Q0b (.slice A1 t.size cap1))) (q9:v 9 = Q2o u1 (.int .i64 (Y:Nat))) (q10:v 10 = Q2o u1 (.int .i64 x)) (q11:v 11 = Q2o u1 (.int .i64 (Z:Nat))) (q12:v 12 = Q2o u1 (.slice P2 B0.length n2)) (q13:v 13 = Q2o u1 (.bool u2)) (q14:v 14 = Q2o u1 (.bool (!u2))) (q15:v 15 = .bool (!u1 && !u2));simp only [Flow.All,Flow.acts,Act.put];go_simp;have hxx:=hdr.trans hx;have HX:=Lib.hid hxx;have hbr:=HBR.out.ext hxx;have cr:=hbr.cell 0;have fr:=hbr.frozen 0;simp only [Go.Tw.gA,Go.Tw.gB] at cr;have HBR5:=Lib.hid hbr;obtain ⟨r,hr⟩:∃ r,(!u1 && !u2) = r:=⟨_,rfl⟩;have HR:Hid ((u1 || u2) = !r):=Lib.hid (by rw [<- hr]; cases u1 <;> cases u2 <;> rfl)
            rw [HR.out] at HCV;rw [hr];clear hr hxx hx cf ca cb hbr;cases r with
            | false =>
              gi_wp2
              exact ⟨Q4c HX.out,trivial,fun y hy=>by rcases List.mem_append.1 hy with h | h; exact HI.out y h; rw [List.mem_singleton.1 h]; exact HCV.out,HBE.out.trans (HX.out.mono hsz')⟩
            | true =>
              gi_wp2
              exact ⟨(Q4c HX.out).trans (KeepsOthers.setCell _ _ _),⟨rfl,⟨x,hxN⟩,HCV.out⟩,HBR5.out.set 0 _,((HBE.out.mono (by show w.heap.size + 1 <= _; have:=HKR.out.lt; omega)).trans (HX.out.mono (by show w.heap.size + 1 <= _; have:=HKR.out.lt; have:=HBE.out.size; omega))).setCell (p:=⟨w.heap.size + 1,0,none⟩) (Nat.le_refl _) _⟩
    . have hne2:(E != 0) = true:=by simp [hE0]
      have HIE2:Hid (Y2p t A0 B0 = E):=Lib.hid (by rw [HIE.out,if_neg hE0])
      clear hE0
      gi_wp2
      refine ⟨_,Q5u rfl rfl (World.cell?_setCell_same _ _ _ cr),by rw [HIE2.out],HXX2.out.setCell (p:=⟨w.heap.size + 1,0,none⟩) (by show w.heap.size <= w.heap.size + 1; omega) _⟩
 . have HIE:Hid (Y2p t A0 B0 = t.err):=Lib.hid (by unfold Y2p; rw [if_neg he])
   have hne:(t.err != 0) = true:=by simp [he]
   clear he
   gi_wp2
   refine ⟨_,Q5u rfl rfl (World.cell?_setCell_same _ _ _ cr),by rw [HIE.out],HXX.out.setCell (p:=⟨w.heap.size + 1,0,none⟩) (by show w.heap.size <= w.heap.size + 1; omega) _⟩
end Go.Proofs
