/- Contract of the reference: copied. -/
import Derived.Test.YtgopmebjbkdfgaaGreatDoorFm36
import Derived.Deep.DeepCutAuto
set_option maxRecDepth 1000000
set_option maxHeartbeats 64000000
set_option linter.unusedVariables false
set_option linter.unusedSimpArgs false
set_option linter.constructorNameAsVariable false
namespace Go.Proofs
open Go.RowKit Go.Tw Go.Flow
theorem X4r (w:World) (s:ByteArray) (c:Int) (b:Option Addr) (n cp:Nat):(Instr.build 50 #[(0,.string s),(1,.int .i64 c),(2,.slice b n cp)]).run Tryz.prog w = .ok (.agg #[.string s,.int .i64 c,.slice b n cp]) w:=by kernel_rfl
theorem X0b (w:World) (s:ByteArray) (c:Int) (b:Option Addr) (n cp:Nat):(Instr.build 97 #[(0,.string s),(1,.int .i64 c),(2,.slice b n cp)]).run Tryz.prog w = .ok (.agg #[.string s,.int .i64 c,.slice b n cp]) w:=by kernel_rfl
theorem X9c (w:World) (s:ByteArray) (c:Int) (b:Option Addr) (n cp:Nat):(Instr.buildSlice 23 1 #[(0,.agg #[.string s,.int .i64 c,.slice b n cp])]).run Tryz.prog w = .ok (.slice (some ⟨w.heap.size,0,none⟩) 1 1) (w.alloc (.cells #[.string s,.int .i64 c,.slice b n cp] 50)):=by kernel_rfl
theorem X3y (w:World) (s:ByteArray) (c:Int) (b:Option Addr) (n cp:Nat):(Instr.buildSlice 24 1 #[(0,.agg #[.string s,.int .i64 c,.slice b n cp])]).run Tryz.prog w = .ok (.slice (some ⟨w.heap.size,0,none⟩) 1 1) (w.alloc (.cells #[.string s,.int .i64 c,.slice b n cp] 97)):=by kernel_rfl
structure X2z (w:World) (base:Nat) (t:Tree) (vb vc vg:Value) (mc mg:Nat -> Value):Prop where
 bas:Q1d w base 48 2 Q8h vb t.basics
 cau:Q1d w base 50 3 enc3 vc ((List.range t.causes.length).map (cF t mc))
 gat:Q1d w base 97 3 enc3 vg ((List.range t.gates.length).map (gF t mg))
 mem:∀ i,i < t.causes.length -> Q0r w 0 3 (.int .i64) (mc i) (Q0e t.causes i)
 inp:∀ i,i < t.gates.length -> Q0r w 0 3 (.int .i64) (mg i) (Q0i t.gates i)
theorem X2z.ext {w w':World} {base:Nat} {t:Tree} {vb vc vg:Value} {mc mg:Nat -> Value} (h:X2z w base t vb vc vg mc mg) (hx:Ext w w'):X2z w' base t vb vc vg mc mg :=
 ⟨h.bas.below hx,h.cau.below hx,h.gat.below hx,fun i hi=>(h.mem i hi).below hx,fun i hi=>(h.inp i hi).below hx⟩
theorem X2z.tree {w w0:World} {base:Nat} {t:Tree} {a b c vb vc vg:Value} {mc mg:Nat -> Value} (h:X2z w base t vb vc vg mc mg) (ht:Q5u w0 a b c t):Q5u w vb vc vg t :=
 ⟨X7b h.bas ht.basics,X6p h.cau ht.causes fun i hi=>(h.mem i hi).ints (ht.causes.short hi).2,X8x h.gat ht.gates fun i hi=>(h.inp i hi).ints (ht.gates.short hi).2⟩
theorem Q2q {α:Type} {w:World} {base base' k:Nat} {e:TypeId} {enc:α -> List Value} {v:Value} {l:List α} (h:Q1d w base e k enc v l) (hb:base' <= base):Q1d w base' e k enc v l:=by
 obtain ⟨h1,h2⟩:=h;refine ⟨h1,?_⟩
 rcases h2 with h2 | ⟨g,cap,cur,hv,hbg,r⟩
 . exact .inl h2
 . exact .inr ⟨g,cap,cur,hv,Nat.le_trans hb hbg,r⟩
theorem X4h {w:World} {A:Option Addr} {n cap:Nat} {l:List Basic} {a:Addr} (h:Q2j w (.slice A n cap) l) (ha:A = some a):∀ j u,(l.flatMap Q8h)[j]? = some u -> w.cell? (a.add j) = some u:=by
 obtain ⟨c,⟨A',cap',hv,_,_,hc⟩,h2⟩:=h;cases hv;intro j u hj;have hlen:=Q4a Q6k l;have hjl:j < (l.flatMap Q8h).length:=(List.getElem?_eq_some_iff.1 hj).1;obtain ⟨b,off,hA,hcell⟩:=hc j (by omega)
 rw [ha] at hA;cases hA;rw [addr_add,hcell];have e:j = j / 2 * 2 + j % 2:=by omega
 have hk:j / 2 < l.length:=by omega
 rw [e,flat_get Q6k l (j / 2) (j % 2) hk (by omega)] at hj
 obtain ⟨h0,h1,_⟩:=h2 (j / 2) hk
 rcases Nat.mod_two_eq_zero_or_one j with hm | hm
 . rw [hm] at hj e
   have h0':c (j / 2 * 2 + 0) = .string l[j / 2].name:=h0;rw [e,h0']
   simpa [Q8h] using hj
 . rw [hm] at hj e
   have h1':c (j / 2 * 2 + 1) = .int .i64 l[j / 2].chance:=h1;rw [e,h1']
   simpa [Q8h] using hj
theorem X5k (l:List Basic):∀ u ∈ l.flatMap Q8h,u.oneCell' = true:=by
 intro u hu;obtain ⟨x,_,hu⟩:=List.mem_flatMap.1 hu;simp only [Q8h,List.mem_cons,List.not_mem_nil,or_false] at hu
 rcases hu with rfl | rfl <;> rfl
theorem Y5v {w:World} {A:Option Addr} {cap:Nat} {l:List Int} (h:Q0f w (.slice A l.length cap) l):Src w (Value.int .i64) (.slice A l.length cap) l:=by
 obtain ⟨A',cap',hv,_,_,hc⟩:=h.opened;cases hv;refine ⟨A,cap,rfl,fun j hj=>?_⟩;obtain ⟨b,off,hA,hcell⟩:=hc j hj;exact ⟨b,off,hA,by rw [hcell,Q6i hj]⟩
theorem X0s {w:World} {base:Nat} {v:Value} {l:List Int} (h:Q0r w base 3 (.int .i64) v l):Q0r w 0 3 (.int .i64) v l:=by
 obtain ⟨h1,h2⟩:=h;refine ⟨h1,?_⟩
 rcases h2 with h2 | ⟨g,cap,cur,hv,hbg,r⟩
 . exact .inl h2
 . exact .inr ⟨g,cap,cur,hv,Nat.zero_le _,r⟩
theorem X3j {w:World} {base b:Nat} {v:Value} {l:List Int} (h:Q0r w base 3 (.int .i64) v l) (hb:v.ownBlock = some b):base <= b /\ b < w.heap.size:=by
 obtain ⟨_,h2⟩:=h
 rcases h2 with ⟨rfl,_⟩ | ⟨g,cap,cur,rfl,hbg,hgl,_⟩
 . cases hb
 . cases hb
   exact ⟨hbg,(Array.getElem?_eq_some_iff.1 hgl).1⟩
def Apart (u v:Value):Prop:=∀ b,u.ownBlock = some b -> v.ownBlock ≠ some b
def Fam (B n:Nat) (m:Nat -> Value):Prop:=(∀ i,i < n -> ∀ b,(m i).ownBlock = some b -> B <= b) /\ ∀ i j,i < j -> j < n -> Apart (m i) (m j)
def Q7c (B:Nat) (t:Tree) (mc mg:Nat -> Value):Prop:=Fam B t.causes.length mc /\ Fam B t.gates.length mg /\ ∀ i j,i < t.causes.length -> j < t.gates.length -> Apart (mc i) (mg j)
theorem Fam.nil (B:Nat) (m:Nat -> Value):Fam B 0 m:=⟨fun _ h=>absurd h (Nat.not_lt_zero _),fun _ _ _ h=>absurd h (Nat.not_lt_zero _)⟩
theorem Fam.weaken {B B' n:Nat} {m:Nat -> Value} (h:Fam B n m) (hb:B' <= B):Fam B' n m:=⟨fun i hi b hi2=>Nat.le_trans hb (h.1 i hi b hi2),h.2⟩
theorem Fam.snoc {w w':World} {B k:Nat} {m:Nat -> Value} {v:Value} {L:Nat -> List Int} {l:List Int} (h:Fam B k m) (hm:∀ j,j < k -> Q0r w 0 3 (.int .i64) (m j) (L j)) (hv:Q0r w' w.heap.size 3 (.int .i64) v l) (hB:B <= w.heap.size) :
    Fam B (k + 1) (fun j=>if j = k then v else m j):=by
 refine ⟨fun i hi b hb=>?_,fun i j hij hj b h1 h2=>?_⟩
 . replace hb:(if i = k then v else m i).ownBlock = some b:=hb
   by_cases e:i = k
   . rw [if_pos e] at hb
     exact Nat.le_trans hB (X3j hv hb).1
   . rw [if_neg e] at hb
     exact h.1 i (by omega) b hb
 . replace h1:(if i = k then v else m i).ownBlock = some b:=h1
   replace h2:(if j = k then v else m j).ownBlock = some b:=h2
   have ei:¬ i = k:=by omega
   rw [if_neg ei] at h1
   by_cases e:j = k
   . rw [if_pos e] at h2
     have:=(X3j hv h2).1;have:=(X3j (hm i (by omega)) h1).2
     omega
   . rw [if_neg e] at h2
     exact h.2 i j hij (by omega) b h1 h2
theorem Y1b {α:Type} {w w':World} {base k O:Nat} {e S:TypeId} {enc:α -> List Value} {v:Value} {l:List α} {cs:Array Value} (h:Q1d w base e k enc v l) (hb:Blk w O S cs) (hT:S ≠ e) (ho:Off O w w'):Q1d w' base e k enc v l:=by
 obtain ⟨h1,h2⟩:=h;refine ⟨h1,?_⟩
 rcases h2 with h2 | ⟨g',cap,cur,hv,hbb,hgl,r⟩
 . exact .inl h2
 . refine .inr ⟨g',cap,cur,hv,hbb,?_,r⟩
   rw [ho.2.2 g' (Array.getElem?_eq_some_iff.1 hgl).1 ?_]; exact hgl;rintro rfl;unfold Blk at hb;rw [hb] at hgl;injection hgl with hgl;injection hgl with _ h3 _;exact hT h3
theorem X2p (w:World) (v:Value) (t:Tree) (ht:IsTree w v t) (hf:Few t) (hb1:1 <= t.basics.length) :
    Calls Tryz.prog 69 #[v] w fun e w'=>∃ vb vc vg mc mg,e = .returned (.agg #[vb,vc,vg]) /\ X2z w' w.heap.size t vb vc vg mc mg /\ Q7c w.heap.size t mc mg /\ Ext w w':=by
 obtain ⟨i0,hi,hz0,hz1,hz2⟩:=info_parts Tryz.Z2o;obtain ⟨j0,ji,jz0,jz1,jz2⟩:=info_parts Tryz.Y9p;obtain ⟨l0,li,lz0,lz1,lz2⟩:=info_parts Tryz.Z1c;obtain ⟨n0,ni,nz0,nz1,nz2⟩:=info_parts Tryz.info3;obtain ⟨a,b,c,rfl,h3⟩:=ht;obtain ⟨A,capa,rfl,hl1,hcap1,_⟩:=h3.basics.opened;obtain ⟨B,capb,rfl,hl2,hcap2,_⟩:=h3.causes.opened;obtain ⟨G,capg,rfl,hl3,hcap3,_⟩:=h3.gates.opened;have HT0:=Lib.hid h3;clear h3;have HF:=Lib.hid hf;have hnb:=hf.b;have hnc:=hf.c;have hng:=hf.g;clear hf;obtain ⟨_,_,he0,_,_,hcb⟩:=HT0.out.basics.opened;cases he0;obtain ⟨bA,oA,hbA,_⟩:=hcb 0 hb1;have HBA:=Lib.hid hbA;clear hcb hbA;go_enter Tryz.func69,Tryz.ntmps69;go_upto_region 1 with fail;change Code.wp _ _ _ _ ((w.alloc (.cells #[.slice A t.basics.length capa,.slice B t.causes.length capb,.slice G t.gates.length capg] 26)).alloc (.cells #[.slice none 0 0,.slice none 0 0,.slice none 0 0] 26));obtain ⟨W,hWW,k0,k1,HXW,eW⟩:=Q5n w 26 #[.slice A t.basics.length capa,.slice B t.causes.length capb,.slice G t.gates.length capg] 26 #[.slice none 0 0,.slice none 0 0,.slice none 0 0];rw [hWW];clear hWW;have HT:=Lib.hid (HT0.out.ext HXW.out);have K0:=Lib.hid k0;have R0:=Lib.hid k1;have c0:=k0.cell 0;simp only [Go.Tw.gA,Go.Tw.gB,Go.Tw.gC] at c0;clear k0 k1;have hown0:(W.alloc (.cells #[] 48)).ownsRow W.heap.size 48 2 (.slice (some ⟨W.heap.size,0,none⟩) 0 0) 0 []:=World.ownsRow_made W #[] 0 (Nat.le_refl _) (by unfold maxLen; omega) rfl
 rw [eW] at hown0;have hx0:=Ext.box W (.cells #[] 48);have HSRC:=Lib.hid (X4h (HT.out.basics.ext hx0) HBA.out);have HONE:=Lib.hid (X5k t.basics);have HFL:Hid ((t.basics.flatMap Q8h).length = t.basics.length * 2):=Lib.hid (Q4a Q6k t.basics);replace c0:=hx0.cell c0;obtain rfl:=HBA.out;go_wp2_with (at_builtin; refine wpList_append_own _ rfl _ _ 22 rfl (w.heap.size + 1 + 1) 48 i0 (.agg #[.string emp,.int .i64 0]) 2 24 Tryz.underlying22 hi hz0 hz1 hz2 rfl (by decide) _ _ _ rfl hown0 ⟨bA,oA,none⟩ t.basics.length capa (t.basics.flatMap Q8h) rfl HFL.out HSRC.out HONE.out ?_ ?_ ?_ ?_; (focus (unfold maxLen; omega)); (focus omega); (focus (simp; omega)); intro v' w1 hown' hgrow _; refine halted ?_)
 have HX1:Hid (Ext W w1):=Lib.hid (Below.trans hx0 (Below.grown (Below.refl _ _) hgrow (by have:=hx0.size; omega) (fun j hj=>by have:=(hown0.lt j hj).1; omega)))
 have HBV:Hid (Q1d w1 (w.heap.size + 1 + 1) 48 2 Q8h v' t.basics):=Lib.hid (by unfold Q1d; simpa using hown')
 obtain ⟨bB,cB,hsh,_⟩:=HBV.out.shape;rw [hsh] at HBV ⊢;clear hown' hgrow hsh hown0 hx0 c0 HSRC HONE HFL;unfold Q3g;obtain ⟨O,hO⟩:∃ O,w1.heap.size = O:=⟨_,rfl⟩;have hWO:W.heap.size <= O:=by rw [<- hO]; exact HX1.out.size
 have HBT0:=Lib.hid (Blk.made w1 26 #[.slice bB t.basics.length cB,.slice none 0 0,.slice none 0 0]);have hxb:=Ext.box w1 (.cells #[.slice bB t.basics.length cB,.slice none 0 0,.slice none 0 0] 26);have c1:=((K0.out.ext HX1.out).ext hxb).cell 1;simp only [Go.Tw.gA,Go.Tw.gB,Go.Tw.gC] at c1;have HX1B:=Lib.hid (HX1.out.trans hxb);have HBV1:=Lib.hid (HBV.out.below hxb);have hs1:(w1.alloc (.cells #[.slice bB t.basics.length cB,.slice none 0 0,.slice none 0 0] 26)).heap.size = O + 1:=by rw [<- hO]; simp
 go_upto_region 3 with fail;obtain ⟨W1,hW1⟩:∃ X,w1.alloc (.cells #[.slice bB t.basics.length cB,.slice none 0 0,.slice none 0 0] 26) = X:=⟨_,rfl⟩;rw [hW1] at HX1B HBV1 HBT0 c1 hs1 ⊢;rw [hO] at HBT0;clear hxb hW1 HX1 HBV hO;obtain ⟨B2,hB2⟩:∃ B,W1.heap.size = B:=⟨_,rfl⟩;have hB2O:O < B2:=by omega
 obtain ⟨bv,hbv⟩:∃ x,Value.slice bB t.basics.length cB = x:=⟨_,rfl⟩;rw [hbv] at HBV1 HBT0;clear hbv;clear c1
 go_loopw [4] (fun i wr=>∃ (k:Nat) (xv:Value) (mc:Nat -> Value),k <= t.causes.length /\ i = .int .i64 k /\ Q1d wr B2 50 3 enc3 xv ((List.range k).map (cF t mc)) /\ (∀ j,j < k -> Q0r wr 0 3 (.int .i64) (mc j) (Q0e t.causes j)) /\ Fam B2 k mc /\ Blk wr O 26 #[bv,xv,.slice none 0 0] /\ Off O W1 wr) (fun i _=>t.causes.length - (intOf i).toNat)
 case atStart=>exact ⟨0,_,fun _=>undef,Nat.zero_le _,rfl,Q1d.nil _ _ _ _ _,fun j hj=>by omega,Fam.nil _ _,HBT0.out,Off.refl _ _⟩
 case round =>
  obtain ⟨k,xv,mc,hk,rfl,hown,hmem,hfam,hblk,hoff⟩:=hrel;have hwrs:O + 1 <= wr.heap.size:=hblk.lt;have hxw:Ext W wr:=Below.trans HX1B.out (hoff.1.mono hWO);have c1:=(K0.out.ext hxw).cell 1;simp only [Go.Tw.gA,Go.Tw.gB,Go.Tw.gC] at c1
  by_cases hlt:k < t.causes.length
  . obtain ⟨_,_,he0,_,_,hcc⟩:=HT.out.causes.opened
    cases he0;obtain ⟨b1,off,mvv,rfl,hb1,e0,e1,e2,hM,_⟩:=hcc k hlt;replace e0:=hxw.cell e0;replace e1:=hxw.cell e1;replace e2:=hxw.cell e2;obtain ⟨A3,cap3,rfl,_,_,_⟩:=hM.opened;have hMr:=hM.ext hxw;obtain ⟨nm,hnm⟩:∃ x,cName t.causes k = x:=⟨_,rfl⟩;obtain ⟨ch,hch⟩:∃ x,Q1l t.causes k = x:=⟨_,rfl⟩;obtain ⟨ml,hml⟩:∃ x,Q0e t.causes k = x:=⟨_,rfl⟩;rw [hnm] at e0;rw [hch] at e1;rw [hml] at e2 hMr;have HNM:=Lib.hid hnm;have HCH:=Lib.hid hch;have HML:=Lib.hid hml;have HLE:Hid (ml.length <= 1000):=Lib.hid (by rw [<- hml]; exact HF.out.m k hlt)
    have xb:=Ext.box wr (.cells #[.string nm,.int .i64 ch,.slice A3 ml.length cap3] 50);have kb:=Blk.made wr 50 #[.string nm,.int .i64 ch,.slice A3 ml.length cap3];have HM:=Lib.hid (hMr.ext xb);have HOW:=Lib.hid (hown.below xb);have HME:=Lib.hid (fun j (hj:j < k)=>(hmem j hj).below xb);have HFM:=Lib.hid hfam;have HBK:=Lib.hid (hblk.ext xb);have HOF:=Lib.hid (hoff.ext xb (by omega))
    have hs5:(wr.alloc (.cells #[.string nm,.int .i64 ch,.slice A3 ml.length cap3] 50)).heap.size = wr.heap.size + 1:=by simp
    have hwB:B2 <= wr.heap.size:=by have:=hoff.2.1; omega
    have hkI:(k:Int) < t.causes.length:=by omega
    clear hown hmem hfam hblk hoff hcc hM hnm hch hml xb hMr hxw
    go_light
    go_wp2;obtain ⟨W5,hW5⟩:∃ X,wr.alloc (.cells #[.string nm,.int .i64 ch,.slice A3 ml.length cap3] 50) = X:=⟨_,rfl⟩;rw [hW5] at HM HOW HME HBK HOF kb hs5 ⊢;have KB:=Lib.hid kb;have hdr:=(Ext.refl W5).drew;clear hW5 kb e0 e1 e2 c1;refine Flow.Q4f [.p,.w,.p,.w,.p,.w,.w,.p,.w,.w,.p,.w,.last,.last,.last] [0,1,2,3,4,5,6,7,8,9,10,11,12,13,14] [[],[0],[],[2],[],[4],[],[],[7],[6,7,8],[2,3,4,5,6,7,8,9],[2,3,4,5,6,7,8,9,10],[0,1,2,3,4,5,6,7,8,9,10,11],[0,1,2,3,4,5,6,7,8,9,10,11,12],[0,1,2,3,4,5,6,7,8,9,10,11,12,13]] [12,13,14]
     [.c 0 (.pointer (some ⟨O,1,none⟩)),.c 1 (xv),.c 2 (.pointer (some ⟨wr.heap.size,0,none⟩)),.c 3 (.string nm),.c 4 (.pointer (some ⟨wr.heap.size,1,none⟩)),.c 5 (.int .i64 ch),⟨fun v wz=>(fun v w'=>Q4c w' (v 6) W5.heap.size 3) v wz,fun _ _ _ hx h=>Q4c.ext h hx⟩,.c 7 (.pointer (some ⟨wr.heap.size,2,none⟩)),.c 8 (.slice A3 ml.length cap3),⟨fun v wz=>(fun v w'=>Q0r w' W5.heap.size 3 (.int .i64) (v 9) ml) v wz,fun _ _ _ hx h=>Q0r.below h hx⟩,⟨fun v wz=>(fun v w'=>v 10 = .agg #[.string nm,.int .i64 ch,v 9]) v wz,by intro _ _ _ _ h; exact h⟩,⟨fun v wz=>(fun v w'=>∃ g,v 11 = .slice (some ⟨g,0,none⟩) 1 1 /\ Blk w' g 50 (enc3 (nm,ch,v 9)).toArray) v wz,by rintro v a b hx ⟨g,h1,h2⟩; exact ⟨g,h1,h2.ext hx⟩⟩,.none,.none,.none]
     [fun v w1 w'=>Q1d w' B2 50 3 enc3 (v 12) ((List.range k).map (cF t mc) ++ [(nm,ch,v 9)]) /\ w1.grownBy w' xv.ownBlock,fun v w1 w'=>v 13 = .pointer (some ⟨O,1,none⟩) /\ Q1d w' B2 50 3 enc3 (v 12) ((List.range k).map (cF t mc) ++ [(nm,ch,v 9)]) /\ w1.grownBy w' xv.ownBlock,fun v w1 w'=>∃ x wm,Q1d wm B2 50 3 enc3 x ((List.range k).map (cF t mc) ++ [(nm,ch,v 9)]) /\ w1.grownBy wm xv.ownBlock /\ w' = wm.setCell ⟨O,1,none⟩ x] (by kernel_rfl) rfl (by kernel_rfl) ⟨?g0,?g1,?g2,?g3,?g4,?g5,?g6,?g7,?g8,?g9,?g10,?g11,?g12,?g13,?g14,trivial⟩ ?post
    case g0 | g2 | g4 | g7=>
     intro v w1 hx;intro bb hbb;subst hbb;refine ⟨_,fun w=>?_,rfl⟩;go_simp
    case g1 | g3 | g5 | g8=>
     intro v w1 hx;(repeat intro (zq:v _ = _));intro bb hbb;subst hbb;have n0:w1.cell? ⟨O,1,none⟩ = some xv:=(HBK.out.ext (hdr.trans hx)).cell 1;have n1:w1.cell? ⟨wr.heap.size,0,none⟩ = some (.string nm):=(KB.out.ext (hdr.trans hx)).cell 0;have n2:w1.cell? ⟨wr.heap.size,1,none⟩ = some (.int .i64 ch):=(KB.out.ext (hdr.trans hx)).cell 1;have n3:w1.cell? ⟨wr.heap.size,2,none⟩ = some (.slice A3 ml.length cap3):=(KB.out.ext (hdr.trans hx)).cell 2;intro K hK;go_simp;exact hK _ _ (Ext.refl _) rfl
    case g6=>
     intro v w1 hx;intro bb hbb;subst hbb;intro K hK;go_simp;exact hK _ _ (Ext.box _ _) (Q4c.made _ _ _ (hdr.trans hx).size)
    case g9=>
     intro v w1 hx (q6:(fun v w'=>Q4c w' (v 6) W5.heap.size 3) v w1) (q7:v 7 = _) (q8:v 8 = _);intro bb hbb;intro K hK;have o1:bb.eval (.tmp 31) = v 6:=by rw [hbb]; dsimp only; (try simp (discharger:=decide) only [eval_put_ne]); rw [Q0a (by simp only [size_put]; exact (by decide:31 < 66))]
     have o2:bb.eval (.tmp 33) = .slice A3 ml.length cap3:=by rw [hbb]; dsimp only; (try simp (discharger:=decide) only [eval_put_ne]); rw [Q0a (by simp only [size_put]; exact (by decide:33 < 66))]; exact q8
     exact Q8u _ _ 40 rfl W5.heap.size 3 n0 (.int .i64 0) 8 Tryz.underlying40 ni nz0 nz1 nz2 rfl (Value.int .i64) (v 6) (.slice A3 ml.length cap3) ml o1 q6 o2 (Y5v (HM.out.ext (hdr.trans hx))) (fun _ _=>rfl) (by have:=HLE.out; omega) (by decide) (hdr.trans hx).size (fun v' w' hown hx2=>hK _ _ hx2 hown)
    case g10=>
     intro v w1 hx (q2:v 2 = _) (q3:v 3 = _) (q4:v 4 = _) (q5:v 5 = _) _ (q7:v 7 = _) (q8:v 8 = _) (q9:(fun v w'=>Q0r w' W5.heap.size 3 (.int .i64) (v 9) ml) v w1);intro bb hbb;obtain ⟨s9,c9,e9,_⟩:=Q0r.shape q9;have o1:bb.eval (.tmp 28) = .string nm:=by rw [hbb]; dsimp only; (try simp (discharger:=decide) only [eval_put_ne]); rw [Q0a (by simp only [size_put]; exact (by decide:28 < 66))]; exact q3
     have o2:bb.eval (.tmp 30) = .int .i64 ch:=by rw [hbb]; dsimp only; (try simp (discharger:=decide) only [eval_put_ne]); rw [Q0a (by simp only [size_put]; exact (by decide:30 < 66))]; exact q5
     have o3:bb.eval (.tmp 34) = v 9:=by rw [hbb]; dsimp only; (try simp (discharger:=decide) only [eval_put_ne]); rw [Q0a (by simp only [size_put]; exact (by decide:34 < 66))]
     rw [e9] at o3;exact ⟨_,fun w=>Q3v _ (.tmp 28) (.tmp 30) (.tmp 34) rfl o1 o2 o3 (fun w=>X4r w _ _ _ _ _),by show Value.agg #[.string nm,.int .i64 ch,.slice s9 ml.length c9] = Value.agg #[.string nm,.int .i64 ch,v 9]; rw [e9]⟩
    case g11=>
     intro v w1 hx (q2:v 2 = _) (q3:v 3 = _) (q4:v 4 = _) (q5:v 5 = _) _ (q7:v 7 = _) (q8:v 8 = _) (q9:(fun v w'=>Q0r w' W5.heap.size 3 (.int .i64) (v 9) ml) v w1) (q10:(fun v w'=>v 10 = .agg #[.string nm,.int .i64 ch,v 9]) v w1);intro bb hbb;intro K hK;obtain ⟨s9,c9,e9,_⟩:=Q0r.shape q9;have o1:bb.eval (.tmp 35) = .agg #[.string nm,.int .i64 ch,v 9]:=by rw [hbb]; dsimp only; (try simp (discharger:=decide) only [eval_put_ne]); rw [Q0a (by simp only [size_put]; exact (by decide:35 < 66))]; exact q10
     rw [e9] at o1;have hbl:Blk (w1.alloc (.cells (Value.agg #[.string nm,.int .i64 ch,.slice s9 ml.length c9]).cells 50)) w1.heap.size 50 (enc3 (nm,ch,v 9)).toArray:=by rw [e9]; exact Blk.made _ _ _
     exact Q2w 23 50 (.tmp 35) rfl o1 (X9c w1 _ _ _ _ _) (hK _ _ (Ext.box _ _) ⟨_,rfl,hbl⟩)
    case g12=>
     intro v w1 hx (q0:v 0 = _) (q1:v 1 = _) (q2:v 2 = _) (q3:v 3 = _) (q4:v 4 = _) (q5:v 5 = _) _ (q7:v 7 = _) (q8:v 8 = _) (q9:(fun v w'=>Q0r w' W5.heap.size 3 (.int .i64) (v 9) ml) v w1) _ (q11:(fun v w'=>∃ g,v 11 = .slice (some ⟨g,0,none⟩) 1 1 /\ Blk w' g 50 (enc3 (nm,ch,v 9)).toArray) v w1);intro wl hT;obtain rfl:wl = w1:=hT;intro bb hbb;intro K hK;obtain ⟨s9,c9,e9,_⟩:=Q0r.shape q9;obtain ⟨g,hg10,hb10⟩:=q11;have o1:bb.eval (.tmp 26) = xv:=by rw [hbb]; dsimp only; (try simp (discharger:=decide) only [eval_put_ne]); rw [Q0a (by simp only [size_put]; exact (by decide:26 < 66))]; exact q1
     have o2:bb.eval (.tmp 36) = .slice (some ⟨g,0,none⟩) 1 1:=by rw [hbb]; dsimp only; (try simp (discharger:=decide) only [eval_put_ne]); rw [Q0a (by simp only [size_put]; exact (by decide:36 < 66))]; exact hg10
     have hxx:=hdr.trans hx;exact Q5t _ _ 23 rfl B2 50 j0 (.agg #[.string emp,.int .i64 0,.slice none 0 0]) 3 48 Tryz.underlying23 ji jz0 jz1 jz2 rfl (by decide) enc3 Q0o xv _ (nm,ch,v 9) o1 (HOW.out.below hxx) ⟨g,0,none⟩ 1 o2 (Q5h hb10) (by rw [e9]; exact Q9l) (by simp; omega) (by decide) (by have:=hxx.size; omega) (fun v' w' h1 h2=>hK _ _ ⟨h1,h2⟩)
    case g13=>
     intro v w1 hx (q0:v 0 = _) (q1:v 1 = _) (q2:v 2 = _) (q3:v 3 = _) (q4:v 4 = _) (q5:v 5 = _) _ (q7:v 7 = _) (q8:v 8 = _) _ _ _;intro wl hT;replace hT:(fun v w1 w'=>Q1d w' B2 50 3 enc3 (v 12) ((List.range k).map (cF t mc) ++ [(nm,ch,v 9)]) /\ w1.grownBy w' xv.ownBlock) v w1 wl:=hT;intro bb hbb;subst hbb;intro K hK;go_simp;exact hK _ _ ⟨rfl,hT⟩
    case g14=>
     intro v w1 hx (q0:v 0 = _) (q1:v 1 = _) (q2:v 2 = _) (q3:v 3 = _) (q4:v 4 = _) (q5:v 5 = _) _ (q7:v 7 = _) (q8:v 8 = _) _ _ _;intro wl hT;replace hT:(fun v w1 w'=>v 13 = .pointer (some ⟨O,1,none⟩) /\ Q1d w' B2 50 3 enc3 (v 12) ((List.range k).map (cF t mc) ++ [(nm,ch,v 9)]) /\ w1.grownBy w' xv.ownBlock) v w1 wl:=hT;intro bb hbb;intro K hK;obtain ⟨hT0,hT1,hT2⟩:=hT;have hxx:=hdr.trans hx;obtain ⟨bp,cp,hsh,_⟩:=hT1.shape;have o1:bb.eval (.tmp 38) = .pointer (some ⟨O,1,none⟩):=by rw [hbb]; dsimp only; (try simp (discharger:=decide) only [eval_put_ne]); rw [Q0a (by simp only [size_put]; exact (by decide:38 < 66))]; exact hT0
     have o2:bb.eval (.tmp 37) = v 12:=by rw [hbb]; dsimp only; (try simp (discharger:=decide) only [eval_put_ne]); rw [Q0a (by simp only [size_put]; exact (by decide:37 < 66))]
     have hbl:=Q3j (HBK.out.ext hxx) (HOW.out.below hxx) hB2O hT2;exact Q2u _ _ rfl Tryz.X2a (g:=O) (k:=1) o1 o2 (by rw [hsh]; rfl) (by rw [hsh]; rfl) hbl (by show 1 < 3; omega) (fun v'=>hK _ _ ⟨v 12,wl,hT1,hT2,rfl⟩)
    case post =>
     intro v w1 hx;(iterate 6 intro (zq:v _ = _));intro (q6:(fun v w'=>Q4c w' (v 6) W5.heap.size 3) v w1);(iterate 2 intro (zq:v _ = _));intro (q9:(fun v w'=>Q0r w' W5.heap.size 3 (.int .i64) (v 9) ml) v w1) (q10:(fun v w'=>v 10 = .agg #[.string nm,.int .i64 ch,v 9]) v w1) (q11:(fun v w'=>∃ g,v 11 = .slice (some ⟨g,0,none⟩) 1 1 /\ Blk w' g 50 (enc3 (nm,ch,v 9)).toArray) v w1);intro w2 hE;replace hE:(fun v w1 w'=>∃ x wm,Q1d wm B2 50 3 enc3 x ((List.range k).map (cF t mc) ++ [(nm,ch,v 9)]) /\ w1.grownBy wm xv.ownBlock /\ w' = wm.setCell ⟨O,1,none⟩ x) v w1 w2:=hE;simp only [Flow.acts,Act.put];go_simp;obtain ⟨x,wm,hom,hgm,rfl⟩:=hE;have hxx:=hdr.trans hx;have hbm:=Q3j (HBK.out.ext hxx) (HOW.out.below hxx) hB2O hgm;have hof:=((HOF.out.ext hxx (by omega)).grown (HOW.out.below hxx) (by omega) (by omega) hgm).set 1 x
     have HO6:=Lib.hid (hom.setCell (p:=⟨O,1,none⟩) hB2O x);have HB6:=Lib.hid (hbm.set 1 x);have HOF6:=Lib.hid hof;have HFM6:=Lib.hid (HFM.out.snoc HME.out q9 (by omega))
     have HME6:Hid (∀ j,j < k + 1 -> Q0r (wm.setCell ⟨O,1,none⟩ x) 0 3 (.int .i64) (if j = k then v 9 else mc j) (Q0e t.causes j)):=Lib.hid (fun j hj=>by
      by_cases hjk:j = k
      . subst hjk
        rw [if_pos rfl,HML.out];exact Q6s (Q4p (X0s q9) (HOW.out.below hxx) (by decide) hgm) hbm (by decide)
      . rw [if_neg hjk]
        exact Q6s (Q4p ((HME.out j (by omega)).below hxx) (HOW.out.below hxx) (by decide) hgm) hbm (by decide))
     rw [Y9y HNM.out HCH.out] at HO6;obtain ⟨w6,hw6⟩:∃ y,wm.setCell ⟨O,1,none⟩ x = y:=⟨_,rfl⟩;rw [hw6] at HO6 HB6 HOF6 HME6 ⊢;clear hw6 hom hgm hxx hx hbm hof q6 q9 q10 q11;(repeat clear zq);go_wp2;go_roundw
     case rel=>exact ⟨k + 1,x,fun j=>if j = k then v 9 else mc j,by omega,by go_num,HO6.out,HME6.out,HFM6.out,HB6.out,HOF6.out⟩
     case measure=>simp [intOf]; omega
  . have hkn:k = t.causes.length:=by omega
    subst hkn;have HCV:=Lib.hid hown;have HMC:=Lib.hid hmem;have HFC:=Lib.hid hfam;have HBT2:=Lib.hid hblk;have HBV2:=Lib.hid (Y1b HBV1.out HBT0.out (by decide) hoff)
    have HX2B:=Lib.hid hxw;obtain ⟨W2,hW2⟩:∃ X,wr = X:=⟨_,rfl⟩;obtain ⟨cv,hcv⟩:∃ x,xv = x:=⟨_,rfl⟩;have c2:=(K0.out.ext hxw).cell 2;simp only [Go.Tw.gA,Go.Tw.gB,Go.Tw.gC] at c2;rw [hW2] at HCV HMC HBT2 HBV2 HX2B hwrs c1 c2 ⊢;rw [hcv] at HCV HBT2;have hB2W:B2 <= W2.heap.size:=by rw [<- hW2,<- hB2]; exact hoff.2.1
    clear hown hmem hfam hblk hoff hW2 hcv hxw HBV1 HX1B HBT0;go_wp2;clear c1 c2;obtain ⟨B3,hB3⟩:∃ B,W2.heap.size = B:=⟨_,rfl⟩;have hB3O:O < B3:=by omega
    go_loopw [6] (fun i wr=>∃ (k:Nat) (xv:Value) (mg:Nat -> Value),k <= t.gates.length /\ i = .int .i64 k /\ Q1d wr B3 97 3 enc3 xv ((List.range k).map (gF t mg)) /\ (∀ j,j < k -> Q0r wr 0 3 (.int .i64) (mg j) (Q0i t.gates j)) /\ Fam B3 k mg /\ Blk wr O 26 #[bv,cv,xv] /\ Off O W2 wr) (fun i _=>t.gates.length - (intOf i).toNat)
    case atStart=>exact ⟨0,_,fun _=>undef,Nat.zero_le _,rfl,Q1d.nil _ _ _ _ _,fun j hj=>by omega,Fam.nil _ _,HBT2.out,Off.refl _ _⟩
    case round =>
     obtain ⟨k,xv,mg,hk,rfl,hown,hmem,hfam,hblk,hoff⟩:=hrel;have hwrs:O + 1 <= wr.heap.size:=hblk.lt;have hxw:Ext W wr:=Below.trans HX2B.out (hoff.1.mono hWO);have c2:=(K0.out.ext hxw).cell 2;simp only [Go.Tw.gA,Go.Tw.gB,Go.Tw.gC] at c2
     by_cases hlt:k < t.gates.length
     . obtain ⟨_,_,he0,_,_,hcc⟩:=HT.out.gates.opened
       cases he0;obtain ⟨b1,off,mvv,rfl,hb1,e0,e1,e2,hM,_⟩:=hcc k hlt;replace e0:=hxw.cell e0;replace e1:=hxw.cell e1;replace e2:=hxw.cell e2;obtain ⟨A3,cap3,rfl,_,_,_⟩:=hM.opened;have hMr:=hM.ext hxw;obtain ⟨nm,hnm⟩:∃ x,Q2f t.gates k = x:=⟨_,rfl⟩;obtain ⟨ch,hch⟩:∃ x,Q3e t.gates k = x:=⟨_,rfl⟩;obtain ⟨ml,hml⟩:∃ x,Q0i t.gates k = x:=⟨_,rfl⟩;rw [hnm] at e0;rw [hch] at e1;rw [hml] at e2 hMr;have HNM:=Lib.hid hnm;have HCH:=Lib.hid hch;have HML:=Lib.hid hml;have HLE:Hid (ml.length <= 1000):=Lib.hid (by rw [<- hml]; exact HF.out.i k hlt)
       have xb:=Ext.box wr (.cells #[.string nm,.int .i64 ch,.slice A3 ml.length cap3] 97);have kb:=Blk.made wr 97 #[.string nm,.int .i64 ch,.slice A3 ml.length cap3];have HM:=Lib.hid (hMr.ext xb);have HOW:=Lib.hid (hown.below xb);have HME:=Lib.hid (fun j (hj:j < k)=>(hmem j hj).below xb);have HFM:=Lib.hid hfam;have HBK:=Lib.hid (hblk.ext xb);have HOF:=Lib.hid (hoff.ext xb (by omega))
       have hs5:(wr.alloc (.cells #[.string nm,.int .i64 ch,.slice A3 ml.length cap3] 97)).heap.size = wr.heap.size + 1:=by simp
       have hwB:B3 <= wr.heap.size:=by have:=hoff.2.1; omega
       have hkI:(k:Int) < t.gates.length:=by omega
       clear hown hmem hfam hblk hoff hcc hM hnm hch hml xb hMr hxw
       go_light
       go_wp2;obtain ⟨W5,hW5⟩:∃ X,wr.alloc (.cells #[.string nm,.int .i64 ch,.slice A3 ml.length cap3] 97) = X:=⟨_,rfl⟩;rw [hW5] at HM HOW HME HBK HOF kb hs5 ⊢;have KB:=Lib.hid kb;have hdr:=(Ext.refl W5).drew;clear hW5 kb e0 e1 e2 c2;refine Flow.Q4f [.p,.w,.p,.w,.p,.w,.w,.p,.w,.w,.p,.w,.last,.last,.last] [0,1,2,3,4,5,6,7,8,9,10,11,12,13,14] [[],[0],[],[2],[],[4],[],[],[7],[6,7,8],[2,3,4,5,6,7,8,9],[2,3,4,5,6,7,8,9,10],[0,1,2,3,4,5,6,7,8,9,10,11],[0,1,2,3,4,5,6,7,8,9,10,11,12],[0,1,2,3,4,5,6,7,8,9,10,11,12,13]] [12,13,14]
        [.c 0 (.pointer (some ⟨O,2,none⟩)),.c 1 (xv),.c 2 (.pointer (some ⟨wr.heap.size,0,none⟩)),.c 3 (.string nm),.c 4 (.pointer (some ⟨wr.heap.size,1,none⟩)),.c 5 (.int .i64 ch),⟨fun v wz=>(fun v w'=>Q4c w' (v 6) W5.heap.size 3) v wz,fun _ _ _ hx h=>Q4c.ext h hx⟩,.c 7 (.pointer (some ⟨wr.heap.size,2,none⟩)),.c 8 (.slice A3 ml.length cap3),⟨fun v wz=>(fun v w'=>Q0r w' W5.heap.size 3 (.int .i64) (v 9) ml) v wz,fun _ _ _ hx h=>Q0r.below h hx⟩,⟨fun v wz=>(fun v w'=>v 10 = .agg #[.string nm,.int .i64 ch,v 9]) v wz,by intro _ _ _ _ h; exact h⟩,⟨fun v wz=>(fun v w'=>∃ g,v 11 = .slice (some ⟨g,0,none⟩) 1 1 /\ Blk w' g 97 (enc3 (nm,ch,v 9)).toArray) v wz,by rintro v a b hx ⟨g,h1,h2⟩; exact ⟨g,h1,h2.ext hx⟩⟩,.none,.none,.none]
        [fun v w1 w'=>Q1d w' B3 97 3 enc3 (v 12) ((List.range k).map (gF t mg) ++ [(nm,ch,v 9)]) /\ w1.grownBy w' xv.ownBlock,fun v w1 w'=>v 13 = .pointer (some ⟨O,2,none⟩) /\ Q1d w' B3 97 3 enc3 (v 12) ((List.range k).map (gF t mg) ++ [(nm,ch,v 9)]) /\ w1.grownBy w' xv.ownBlock,fun v w1 w'=>∃ x wm,Q1d wm B3 97 3 enc3 x ((List.range k).map (gF t mg) ++ [(nm,ch,v 9)]) /\ w1.grownBy wm xv.ownBlock /\ w' = wm.setCell ⟨O,2,none⟩ x] (by kernel_rfl) rfl (by kernel_rfl) ⟨?g0,?g1,?g2,?g3,?g4,?g5,?g6,?g7,?g8,?g9,?g10,?g11,?g12,?g13,?g14,trivial⟩ ?post
       case g0 | g2 | g4 | g7=>
        intro v w1 hx;intro bb hbb;subst hbb;refine ⟨_,fun w=>?_,rfl⟩;go_simp
       case g1 | g3 | g5 | g8=>
        intro v w1 hx;(repeat intro (zq:v _ = _));intro bb hbb;subst hbb;have n0:w1.cell? ⟨O,2,none⟩ = some xv:=(HBK.out.ext (hdr.trans hx)).cell 2;have n1:w1.cell? ⟨wr.heap.size,0,none⟩ = some (.string nm):=(KB.out.ext (hdr.trans hx)).cell 0;have n2:w1.cell? ⟨wr.heap.size,1,none⟩ = some (.int .i64 ch):=(KB.out.ext (hdr.trans hx)).cell 1;have n3:w1.cell? ⟨wr.heap.size,2,none⟩ = some (.slice A3 ml.length cap3):=(KB.out.ext (hdr.trans hx)).cell 2;intro K hK;go_simp;exact hK _ _ (Ext.refl _) rfl
       case g6=>
        intro v w1 hx;intro bb hbb;subst hbb;intro K hK;go_simp;exact hK _ _ (Ext.box _ _) (Q4c.made _ _ _ (hdr.trans hx).size)
       case g9=>
        intro v w1 hx (q6:(fun v w'=>Q4c w' (v 6) W5.heap.size 3) v w1) (q7:v 7 = _) (q8:v 8 = _);intro bb hbb;intro K hK;have o1:bb.eval (.tmp 57) = v 6:=by rw [hbb]; dsimp only; (try simp (discharger:=decide) only [eval_put_ne]); rw [Q0a (by simp only [size_put]; exact (by decide:57 < 66))]
        have o2:bb.eval (.tmp 59) = .slice A3 ml.length cap3:=by rw [hbb]; dsimp only; (try simp (discharger:=decide) only [eval_put_ne]); rw [Q0a (by simp only [size_put]; exact (by decide:59 < 66))]; exact q8
        exact Q8u _ _ 40 rfl W5.heap.size 3 n0 (.int .i64 0) 8 Tryz.underlying40 ni nz0 nz1 nz2 rfl (Value.int .i64) (v 6) (.slice A3 ml.length cap3) ml o1 q6 o2 (Y5v (HM.out.ext (hdr.trans hx))) (fun _ _=>rfl) (by have:=HLE.out; omega) (by decide) (hdr.trans hx).size (fun v' w' hown hx2=>hK _ _ hx2 hown)
       case g10=>
        intro v w1 hx (q2:v 2 = _) (q3:v 3 = _) (q4:v 4 = _) (q5:v 5 = _) _ (q7:v 7 = _) (q8:v 8 = _) (q9:(fun v w'=>Q0r w' W5.heap.size 3 (.int .i64) (v 9) ml) v w1);intro bb hbb;obtain ⟨s9,c9,e9,_⟩:=Q0r.shape q9;have o1:bb.eval (.tmp 54) = .string nm:=by rw [hbb]; dsimp only; (try simp (discharger:=decide) only [eval_put_ne]); rw [Q0a (by simp only [size_put]; exact (by decide:54 < 66))]; exact q3
        have o2:bb.eval (.tmp 56) = .int .i64 ch:=by rw [hbb]; dsimp only; (try simp (discharger:=decide) only [eval_put_ne]); rw [Q0a (by simp only [size_put]; exact (by decide:56 < 66))]; exact q5
        have o3:bb.eval (.tmp 60) = v 9:=by rw [hbb]; dsimp only; (try simp (discharger:=decide) only [eval_put_ne]); rw [Q0a (by simp only [size_put]; exact (by decide:60 < 66))]
        rw [e9] at o3;exact ⟨_,fun w=>Q3v _ (.tmp 54) (.tmp 56) (.tmp 60) rfl o1 o2 o3 (fun w=>X0b w _ _ _ _ _),by show Value.agg #[.string nm,.int .i64 ch,.slice s9 ml.length c9] = Value.agg #[.string nm,.int .i64 ch,v 9]; rw [e9]⟩
       case g11=>
        intro v w1 hx (q2:v 2 = _) (q3:v 3 = _) (q4:v 4 = _) (q5:v 5 = _) _ (q7:v 7 = _) (q8:v 8 = _) (q9:(fun v w'=>Q0r w' W5.heap.size 3 (.int .i64) (v 9) ml) v w1) (q10:(fun v w'=>v 10 = .agg #[.string nm,.int .i64 ch,v 9]) v w1);intro bb hbb;intro K hK;obtain ⟨s9,c9,e9,_⟩:=Q0r.shape q9;have o1:bb.eval (.tmp 61) = .agg #[.string nm,.int .i64 ch,v 9]:=by rw [hbb]; dsimp only; (try simp (discharger:=decide) only [eval_put_ne]); rw [Q0a (by simp only [size_put]; exact (by decide:61 < 66))]; exact q10
        rw [e9] at o1;have hbl:Blk (w1.alloc (.cells (Value.agg #[.string nm,.int .i64 ch,.slice s9 ml.length c9]).cells 97)) w1.heap.size 97 (enc3 (nm,ch,v 9)).toArray:=by rw [e9]; exact Blk.made _ _ _
        exact Q2w 24 97 (.tmp 61) rfl o1 (X3y w1 _ _ _ _ _) (hK _ _ (Ext.box _ _) ⟨_,rfl,hbl⟩)
       case g12=>
        intro v w1 hx (q0:v 0 = _) (q1:v 1 = _) (q2:v 2 = _) (q3:v 3 = _) (q4:v 4 = _) (q5:v 5 = _) _ (q7:v 7 = _) (q8:v 8 = _) (q9:(fun v w'=>Q0r w' W5.heap.size 3 (.int .i64) (v 9) ml) v w1) _ (q11:(fun v w'=>∃ g,v 11 = .slice (some ⟨g,0,none⟩) 1 1 /\ Blk w' g 97 (enc3 (nm,ch,v 9)).toArray) v w1);intro wl hT;obtain rfl:wl = w1:=hT;intro bb hbb;intro K hK;obtain ⟨s9,c9,e9,_⟩:=Q0r.shape q9;obtain ⟨g,hg10,hb10⟩:=q11;have o1:bb.eval (.tmp 52) = xv:=by rw [hbb]; dsimp only; (try simp (discharger:=decide) only [eval_put_ne]); rw [Q0a (by simp only [size_put]; exact (by decide:52 < 66))]; exact q1
        have o2:bb.eval (.tmp 62) = .slice (some ⟨g,0,none⟩) 1 1:=by rw [hbb]; dsimp only; (try simp (discharger:=decide) only [eval_put_ne]); rw [Q0a (by simp only [size_put]; exact (by decide:62 < 66))]; exact hg10
        have hxx:=hdr.trans hx;exact Q5t _ _ 24 rfl B3 97 l0 (.agg #[.string emp,.int .i64 0,.slice none 0 0]) 3 48 Tryz.underlying24 li lz0 lz1 lz2 rfl (by decide) enc3 Q0o xv _ (nm,ch,v 9) o1 (HOW.out.below hxx) ⟨g,0,none⟩ 1 o2 (Q5h hb10) (by rw [e9]; exact Q9l) (by simp; omega) (by decide) (by have:=hxx.size; omega) (fun v' w' h1 h2=>hK _ _ ⟨h1,h2⟩)
       case g13=>
        intro v w1 hx (q0:v 0 = _) (q1:v 1 = _) (q2:v 2 = _) (q3:v 3 = _) (q4:v 4 = _) (q5:v 5 = _) _ (q7:v 7 = _) (q8:v 8 = _) _ _ _;intro wl hT;replace hT:(fun v w1 w'=>Q1d w' B3 97 3 enc3 (v 12) ((List.range k).map (gF t mg) ++ [(nm,ch,v 9)]) /\ w1.grownBy w' xv.ownBlock) v w1 wl:=hT;intro bb hbb;subst hbb;intro K hK;go_simp;exact hK _ _ ⟨rfl,hT⟩
       case g14=>
        intro v w1 hx (q0:v 0 = _) (q1:v 1 = _) (q2:v 2 = _) (q3:v 3 = _) (q4:v 4 = _) (q5:v 5 = _) _ (q7:v 7 = _) (q8:v 8 = _) _ _ _;intro wl hT;replace hT:(fun v w1 w'=>v 13 = .pointer (some ⟨O,2,none⟩) /\ Q1d w' B3 97 3 enc3 (v 12) ((List.range k).map (gF t mg) ++ [(nm,ch,v 9)]) /\ w1.grownBy w' xv.ownBlock) v w1 wl:=hT;intro bb hbb;intro K hK;obtain ⟨hT0,hT1,hT2⟩:=hT;have hxx:=hdr.trans hx;obtain ⟨bp,cp,hsh,_⟩:=hT1.shape;have o1:bb.eval (.tmp 64) = .pointer (some ⟨O,2,none⟩):=by rw [hbb]; dsimp only; (try simp (discharger:=decide) only [eval_put_ne]); rw [Q0a (by simp only [size_put]; exact (by decide:64 < 66))]; exact hT0
        have o2:bb.eval (.tmp 63) = v 12:=by rw [hbb]; dsimp only; (try simp (discharger:=decide) only [eval_put_ne]); rw [Q0a (by simp only [size_put]; exact (by decide:63 < 66))]
        have hbl:=Q3j (HBK.out.ext hxx) (HOW.out.below hxx) hB3O hT2;exact Q2u _ _ rfl Tryz.X3u (g:=O) (k:=2) o1 o2 (by rw [hsh]; rfl) (by rw [hsh]; rfl) hbl (by show 2 < 3; omega) (fun v'=>hK _ _ ⟨v 12,wl,hT1,hT2,rfl⟩)
       case post =>
        intro v w1 hx;(iterate 6 intro (zq:v _ = _));intro (q6:(fun v w'=>Q4c w' (v 6) W5.heap.size 3) v w1);(iterate 2 intro (zq:v _ = _));intro (q9:(fun v w'=>Q0r w' W5.heap.size 3 (.int .i64) (v 9) ml) v w1) (q10:(fun v w'=>v 10 = .agg #[.string nm,.int .i64 ch,v 9]) v w1) (q11:(fun v w'=>∃ g,v 11 = .slice (some ⟨g,0,none⟩) 1 1 /\ Blk w' g 97 (enc3 (nm,ch,v 9)).toArray) v w1);intro w2 hE;replace hE:(fun v w1 w'=>∃ x wm,Q1d wm B3 97 3 enc3 x ((List.range k).map (gF t mg) ++ [(nm,ch,v 9)]) /\ w1.grownBy wm xv.ownBlock /\ w' = wm.setCell ⟨O,2,none⟩ x) v w1 w2:=hE;simp only [Flow.acts,Act.put];go_simp;obtain ⟨x,wm,hom,hgm,rfl⟩:=hE;have hxx:=hdr.trans hx;have hbm:=Q3j (HBK.out.ext hxx) (HOW.out.below hxx) hB3O hgm;have hof:=((HOF.out.ext hxx (by omega)).grown (HOW.out.below hxx) (by omega) (by omega) hgm).set 2 x
        have HO6:=Lib.hid (hom.setCell (p:=⟨O,2,none⟩) hB3O x);have HB6:=Lib.hid (hbm.set 2 x);have HOF6:=Lib.hid hof;have HFM6:=Lib.hid (HFM.out.snoc HME.out q9 (by omega))
        have HME6:Hid (∀ j,j < k + 1 -> Q0r (wm.setCell ⟨O,2,none⟩ x) 0 3 (.int .i64) (if j = k then v 9 else mg j) (Q0i t.gates j)):=Lib.hid (fun j hj=>by
         by_cases hjk:j = k
         . subst hjk
           rw [if_pos rfl,HML.out];exact Q6s (Q4p (X0s q9) (HOW.out.below hxx) (by decide) hgm) hbm (by decide)
         . rw [if_neg hjk]
           exact Q6s (Q4p ((HME.out j (by omega)).below hxx) (HOW.out.below hxx) (by decide) hgm) hbm (by decide))
        rw [Z2x HNM.out HCH.out] at HO6;obtain ⟨w6,hw6⟩:∃ y,wm.setCell ⟨O,2,none⟩ x = y:=⟨_,rfl⟩;rw [hw6] at HO6 HB6 HOF6 HME6 ⊢;clear hw6 hom hgm hxx hx hbm hof q6 q9 q10 q11;(repeat clear zq);go_wp2;go_roundw
        case rel=>exact ⟨k + 1,x,fun j=>if j = k then v 9 else mg j,by omega,by go_num,HO6.out,HME6.out,HFM6.out,HB6.out,HOF6.out⟩
        case measure=>simp [intOf]; omega
     . have hkn:k = t.gates.length:=by omega
       subst hkn;have HOUT:=Lib.hid hblk;have HBVF:=Lib.hid (Y1b HBV2.out HBT2.out (by decide) hoff)
       have HCVF:=Lib.hid (HCV.out.off (by omega) hoff)
       have HMCF:Hid (∀ j,j < t.causes.length -> Q0r wr 0 3 (.int .i64) (mc j) (Q0e t.causes j)):=Lib.hid (fun j hj=>Y2a (HMC.out j hj) HBT2.out (by decide) hoff)
       have HGV:=Lib.hid hown;have HMG:=Lib.hid hmem;have HFG:=Lib.hid hfam;have hR:=R0.out.ext hxw;have HBF:=Lib.hid hxw;clear hown hmem hfam hoff hblk hxw;go_wp2_with (first | (refine Q0j rfl _ _ rfl Tryz.Q2k Tryz.Q0x rfl HOUT.out rfl ?_) | (refine Q0d rfl _ _ 26 rfl Tryz.Q0x rfl rfl hR rfl rfl ?_ ?_; (focus (exact Q6a HBVF.out HCVF.out HGV.out)); intro w9 hb9 hl9 ho9))
       refine bodyPost_ret (Q4k Tryz.results69 rfl hb9 Tryz.Q2k Tryz.Q0x) rfl ?_;have hxf:Ext w w9:=Below.trans (HXW.out.trans HBF.out) (hl9 _ (by omega))
       refine ⟨bv,cv,xv,mc,mg,rfl,⟨?_,?_,?_,?_,?_⟩,⟨HFC.out.weaken (by omega),HFG.out.weaken (by omega),fun i j hi hj b h1 h2=>by have:=(X3j (HMC.out i hi) h1).2; have:=HFG.out.1 j hj b h2; omega⟩,hxf⟩
       . exact Q2q (HBVF.out.only (g:=w.heap.size + 1) (by omega) ho9) (by omega)
       . exact Q2q (HCVF.out.only (g:=w.heap.size + 1) (by omega) ho9) (by omega)
       . exact Q2q (HGV.out.only (g:=w.heap.size + 1) (by omega) ho9) (by omega)
       . exact fun i hi=>X0l (HMCF.out i hi) hR (by decide) ho9
       . exact fun i hi=>X0l (HMG.out i hi) hR (by decide) ho9
end Go.Proofs
