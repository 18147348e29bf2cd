/- Contracts: mapped over sets, checkSets, the closures of CheckCuts. Contracts: checkSets, the closures of CheckCuts. -/
import Derived.Test.YtmaejccjimkbiaaGreatDoorFx28
set_option linter.unusedVariables false
set_option linter.unusedSimpArgs false
set_option linter.constructorNameAsVariable false
namespace Go.Proofs
open Go.RowKit Go.Tw Go.Flow
theorem Tryz.Y8n:(Tryz.prog.info? 30).map (fun i=>(i.zero,i.size,i.bytes)) = some (some (.int .i64 0),1,8):=by kernel_rfl
theorem X1s {α β:Type} (f:List α → β) (ll:List (List α)) {k:Nat} (hk:k < ll.length):(ll.map f).take k ++ [f (ll.getD k [])] = (ll.map f).take (k + 1):=by
 rw [List.take_succ_eq_append_getElem (by simpa using hk)]
 simp [hk]
set_option maxRecDepth 100000 in
set_option maxHeartbeats 1000000 in
theorem X5n (w:World) (v:Value) (ll:List (List Int)) (hv:Q1w w v ll) (hle:ll.length ≤ 4096) (hm:∀ l ∈ ll,∀ x ∈ l,0 ≤ x ∧ x < 62) :
    Calls Tryz.prog 76 #[v,.func (.func 73) #[] #[]] w fun e w'=>∃ x,e = .returned x ∧ Q0f w' x (ll.map fun l=>(Q1n l:Int)) ∧ Ext w w':=by
 obtain ⟨i0,hi,hz0,hz1,hz2⟩:=info_parts Tryz.info3;obtain ⟨A,cap,rfl,hl,hcap,hc⟩:=hv.opened;have HC:=Lib.hid hc;have HM:=Lib.hid hm;clear hv hc hm;go_enter Tryz.func76,Tryz.ntmps76;go_wp2
 go_loopw [5,10] (fun o i wr=>∃ (k:Nat),k ≤ ll.length ∧ i = .int .i64 k ∧ Q0q wr w.heap.size 3 (.int .i64) o ((ll.map fun l=>(Q1n l:Int)).take k) ∧ Ext w wr) (fun _ i _=>ll.length - (intOf i).toNat)
 case atStart=>exact ⟨0,Nat.zero_le _,rfl,Q0q.nil _ _ _ _,Ext.refl _⟩
 case round =>
  obtain ⟨k,hk,rfl,hown,hx⟩:=hrel;have hlen:((ll.map fun l=>(Q1n l:Int)).take k).length = k:=by rw [List.length_take,List.length_map]; omega
  by_cases hlt:k < ll.length
  · obtain ⟨b,off,m,rfl,hbw,hcell,hm⟩:=HC.out k hlt
    have HTK:=Lib.hid (X1s (fun l=>(Q1n l:Int)) ll hlt);have hmm:=HM.out (ll.getD k []) (by rw [Q3u _ hlt]; exact List.getElem_mem hlt)
    obtain ⟨s,hs⟩:∃ s,ll.getD k [] = s:=⟨_,rfl⟩;rw [hs] at hm hmm HTK;obtain ⟨Am,cm,rfl,_,_,_⟩:=hm.opened;have HMS:=Lib.hid (hm.ext hx);have HMM:=Lib.hid hmm;replace hcell:=hx.cell hcell;have HLEN:=Lib.hid hlen;have hll:((ll.map fun l=>(Q1n l:Int)).take k).length ≤ 4096:=by omega
    clear hs hm hmm hlen;go_wp2_with (first | (go_at_call 73; refine (X1a _ _ s HMS.out HMM.out).mono ?_; rintro e w9 ⟨rfl,rfl⟩) | (at_builtin; refine wpList_append_own _ rfl _ _ 39 rfl (w.heap.size) 3 i0 (.int .i64 0) 1 8 Tryz.underlying39 hi hz0 hz1 hz2 rfl (by decide) _ _ _ rfl (World.ownsRow.alloc hown _) ⟨wr.heap.size,0,none⟩ 1 1 [.int .i64 (Q1n s:Nat)] rfl rfl ?_ ?_ ?_ ?_ ?_ ?_; exact Q9g _ _ _; (focus (simp [Value.oneCell'])); (focus (unfold maxLen; omega)); (focus omega); (focus (have:=hx.size; simp at this ⊢; omega)); intro v' w1 hown' hgrow _))
    have hx':=Q5h hx hown (Nat.le_refl _) hgrow;go_wp2;go_roundw
    case rel=>exact ⟨k + 1,by omega,by go_num,by rw [← HTK.out]; exact Q0q.snoc hown',hx'⟩
    case measure=>simp [intOf]; omega
  · have HE:Hid ((ll.map fun l=>(Q1n l:Int)).take k = ll.map fun l=>(Q1n l:Int)):=by exact (by rw [List.take_of_length_le (by rw [List.length_map]; omega)]:(ll.map fun l=>(Q1n l:Int)).take k = ll.map fun l=>(Q1n l:Int))
    have hii:=hown.ints (by omega)
    have HII:=Lib.hid hii;clear hii hown hlen;go_wp2;go_ret;exact ⟨_,rfl,by rw [← HE.out]; exact HII.out,hx⟩
theorem X5z (w:World) (u:Value) (t:Tree) (l:List Int) (B:Nat) (A A':Option Addr) (ca cb:Nat) (gv:Value) (hl:Q0f w u l) (h1:t.basics.length ≤ 17592186043904) (h2:t.causes.length ≤ 17592186043904) (hB:Blk w B 37 #[.slice A t.basics.length ca,.slice A' t.causes.length cb,gv]) :
    Calls Tryz.prog 134 #[u,.pointer (some ⟨B,0,none⟩)] w fun e w'=>e = .returned (.int .i64 (Q1h l t.size)) ∧ Ext w w':=by
 obtain ⟨Au,cap,rfl,_,_,_⟩:=hl.opened;have c0:=hB.cell 0;have c1:=hB.cell 1;simp only [List.getElem?_toArray,List.getElem?_cons_zero,List.getElem?_cons_succ] at c0 c1;have HL:=Lib.hid hl;have HSE:=Lib.hid (X7e t l);have hw:IntKind.i64.wrap ((t.basics.length:Int) + (t.causes.length:Int)) = (t.basics.length:Int) + (t.causes.length:Int):=Q6d _ (by omega) (by omega)
 clear hl hB;go_enter Tryz.func134,Tryz.ntmps134;go_wp2_with (go_at_call 123; refine (Q5g _ _ l _ HL.out).mono ?_; rintro e w' ⟨rfl,hx⟩; rw [HSE.out]);go_ret;exact ⟨rfl,hx⟩
set_option maxRecDepth 100000 in
set_option maxHeartbeats 1000000 in
theorem Y2a (w:World) (v:Value) (ll:List (List Int)) (g:Nat) (c:Value) (f:List Int → Int) (hv:Q1w w v ll) (hle:ll.length ≤ 4096) (eg:∀ args w,(callFunc g args).run Tryz.prog w = .ok (.enter g args) w)
    (hf:∀ W u l,Ext w W → Q0f W u l → Calls Tryz.prog g #[u,c] W fun e W'=>e = .returned (.int .i64 (f l)) ∧ Ext W W') :
    Calls Tryz.prog 133 #[v,.func (.func g) #[] #[c]] w fun e w'=>∃ x,e = .returned x ∧ Q0f w' x (ll.map f) ∧ Ext w w':=by
 obtain ⟨i0,hi,hz0,hz1,hz2⟩:=info_parts Tryz.Y8n;obtain ⟨A,cap,rfl,hl,hcap,hc⟩:=hv.opened;have HC:=Lib.hid hc;have HF:=Lib.hid hf;clear hv hc hf;go_enter Tryz.func133,Tryz.ntmps133;go_wp2
 go_loopw [5,10] (fun o i wr=>∃ (k:Nat),k ≤ ll.length ∧ i = .int .i64 k ∧ Q0q wr w.heap.size 30 (.int .i64) o ((ll.map f).take k) ∧ Ext w wr) (fun _ i _=>ll.length - (intOf i).toNat)
 case atStart=>exact ⟨0,Nat.zero_le _,rfl,Q0q.nil _ _ _ _,Ext.refl _⟩
 case round =>
  obtain ⟨k,hk,rfl,hown,hx⟩:=hrel;have hlen:((ll.map f).take k).length = k:=by rw [List.length_take,List.length_map]; omega
  by_cases hlt:k < ll.length
  · obtain ⟨b,off,m,rfl,hbw,hcell,hm⟩:=HC.out k hlt
    have HTK:=Lib.hid (X1s f ll hlt);obtain ⟨s,hs⟩:∃ s,ll.getD k [] = s:=⟨_,rfl⟩;rw [hs] at hm HTK;have HFS:=Lib.hid (HF.out wr m s hx (hm.ext hx));obtain ⟨y,hy⟩:∃ y,f s = y:=⟨_,rfl⟩;rw [hy] at HFS HTK;replace hcell:=hx.cell hcell;have hll:((ll.map f).take k).length ≤ 4096:=by omega
    have HOWN:=Lib.hid hown;obtain ⟨Am,cm,rfl,_,_,_⟩:=hm.opened;clear hs hm hlen hy hown;go_wp2_with (first | (refine HFS.out.mono ?_; rintro e w9 ⟨rfl,hx9⟩; have hown9:=HOWN.out.below hx9; have hx99:=hx.trans hx9) | (at_builtin; refine wpList_append_own _ rfl _ _ 194 rfl (w.heap.size) 30 i0 (.int .i64 0) 1 8 Tryz.underlying194 hi hz0 hz1 hz2 rfl (by decide) _ _ _ rfl (World.ownsRow.alloc hown9 _) ⟨w9.heap.size,0,none⟩ 1 1 [.int .i64 y] rfl rfl ?_ ?_ ?_ ?_ ?_ ?_; exact Q9g _ _ _; (focus (simp [Value.oneCell'])); (focus (unfold maxLen; omega)); (focus omega); (focus (have:=hx99.size; simp at this ⊢; omega)); intro v' w1 hown' hgrow _))
    have hx':=Q5h hx99 hown9 (Nat.le_refl _) hgrow;go_wp2;go_roundw
    case rel=>exact ⟨k + 1,by omega,by go_num,by rw [← HTK.out]; exact Q0q.snoc hown',hx'⟩
    case measure=>simp [intOf]; omega
  · have HE:Hid ((ll.map f).take k = ll.map f):=by exact (by rw [List.take_of_length_le (by rw [List.length_map]; omega)]:(ll.map f).take k = ll.map f)
    have hii:Q0f wr _ ((ll.map f).take k):=hown.ints (by omega)
    have HII:=Lib.hid hii;clear hii hown hlen;go_wp2;go_ret;exact ⟨_,rfl,by rw [← HE.out]; exact HII.out,hx⟩
end Go.Proofs
namespace Go.Proofs
open Go.RowKit Go.Tw Go.Flow
set_option maxRecDepth 100000 in
set_option maxHeartbeats 1000000 in
theorem X0g (w:World) (v u:Value) (t:Tree) (ll:List (List Int)) (ht:IsTree w v t) (hl:Q1w w u ll) :
    Calls Tryz.prog 75 #[v,u] w fun e w'=>e = .returned (.int .i64 (Q2w t.size ll)) ∧ Ext w w':=by
 obtain ⟨Au,capu,rfl,hlen,_,_⟩:=hl.opened;have HL:=Lib.hid hl;clear hl;obtain ⟨a,b,c,rfl,h3⟩:=ht;obtain ⟨A,capa,rfl,hl1,hcap1,_⟩:=h3.basics.opened;obtain ⟨B,capb,rfl,hl2,hcap2,_⟩:=h3.causes.opened;obtain ⟨G,capg,rfl,hl3,hcap3,_⟩:=h3.gates.opened;have HT0:=Lib.hid h3;clear h3
 by_cases hb:1024 < ll.length
 · have HR:Hid (Q2w t.size ll = 5):=by exact (by unfold Q2w; rw [if_pos hb]:Q2w t.size ll = 5)
   have hb':(1024:Int) < (ll.length:Int):=by omega
   clear hb;go_enter Tryz.func75,Tryz.ntmps75;go_wp2;go_ret;exact ⟨Q1f HR.out.symm,Ext.box _ _⟩
 · have HR:Hid (Q2w t.size ll = Q0h (ll.map fun x=>Q1h x t.size)):=by exact (by unfold Q2w; rw [if_neg hb]:Q2w t.size ll = Q0h (ll.map fun x=>Q1h x t.size))
   have hb':¬ (1024:Int) < (ll.length:Int):=by omega
   go_enter Tryz.func75,Tryz.ntmps75;go_wp2_with fail;change Calls _ _ _ (w.alloc (.cells #[.slice A t.basics.length capa,.slice B t.causes.length capb,.slice G t.gates.length capg] 37)) _;have k0:=Blk.made w 37 #[.slice A t.basics.length capa,.slice B t.causes.length capb,.slice G t.gates.length capg];have x0:=Ext.box w (.cells #[.slice A t.basics.length capa,.slice B t.causes.length capb,.slice G t.gates.length capg] 37);have es0:(w.alloc (.cells #[.slice A t.basics.length capa,.slice B t.causes.length capb,.slice G t.gates.length capg] 37)).heap.size = w.heap.size + 1:=by simp
   obtain ⟨X0,hX0⟩:∃ X,w.alloc (.cells #[.slice A t.basics.length capa,.slice B t.causes.length capb,.slice G t.gates.length capg] 37) = X:=⟨_,rfl⟩;rw [hX0] at k0 x0 es0 ⊢;clear hX0;have e0:X0.heap.size = w.heap.size + 1:=by omega
   have HXW:Hid (Ext w X0):=by exact (x0:Ext w X0)
   have eW:X0.heap.size = w.heap.size + 1:=e0;clear x0 es0 e0;obtain ⟨W,hWW⟩:∃ W,X0 = W:=⟨_,rfl⟩;rw [hWW] at HXW eW ⊢ k0;clear hWW;have K0:=Lib.hid k0;clear k0;refine (Y2a W _ ll 134 (.pointer (some ⟨w.heap.size,0,none⟩)) (fun x=>Q1h x t.size) (HL.out.ext HXW.out) (by omega) (enters_of Tryz.func134 (by kernel_rfl) rfl)
    (fun W' u l hx hu=>X5z W' u t l w.heap.size _ _ _ _ _ hu hl1 hl2 (K0.out.ext hx))).mono ?_
   rintro e w1 ⟨x,rfl,hii,hx1⟩;have HII:=Lib.hid hii;have HXX:=Lib.hid (HXW.out.trans hx1);clear hii hx1;go_wp2_with (go_at_call 74; refine (first_any _ _ _ HII.out).mono ?_; rintro e w' ⟨rfl,rfl⟩);go_ret;exact ⟨Q1f HR.out.symm,HXX.out⟩
theorem Z1s (w:World) (x:Int) (B:Nat) (hf:Nat) (rv:Value) (q:Bool) (eg:∀ args w,(callFunc hf args).run Tryz.prog w = .ok (.enter hf args) w) (hB:w.cell? ⟨B,0,none⟩ = some (.func (.func hf) #[rv] #[]))
    (hq:Calls Tryz.prog hf #[rv,.int .i64 x] w fun e w'=>e = .returned (.bool q) ∧ Ext w w') :
    Calls Tryz.prog 79 #[.int .i64 x,.pointer (some ⟨B,0,none⟩)] w fun e w'=>e = .returned (.bool (!q)) ∧ Ext w w':=by
 have HQ:=Lib.hid hq;clear hq;go_enter Tryz.func79,Tryz.ntmps79;go_wp2_with (refine HQ.out.mono ?_; rintro e w9 ⟨rfl,hx9⟩);go_ret;exact ⟨rfl,hx9⟩
set_option maxHeartbeats 400000 in
theorem Y4k (w:World) (v:Value) (l:List Int) (hf:Nat) (rv:Value) (q:Int → Bool) (hv:Q0f w v l) (eg:∀ args w,(callFunc hf args).run Tryz.prog w = .ok (.enter hf args) w)
    (hq:∀ W x,Ext w W → x ∈ l → Calls Tryz.prog hf #[rv,.int .i64 x] W fun e W'=>e = .returned (.bool (q x)) ∧ Ext W W') :
    Calls Tryz.prog 77 #[v,.func (.func hf) #[rv] #[]] w fun e w'=>e = .returned (.bool (l.any fun x=>!q x)) ∧ Ext w w':=by
 obtain ⟨A,cap,rfl,_,_,_⟩:=hv.opened;have k0:=Blk.made w 124 #[.func (.func hf) #[rv] #[]];have hx0:=Ext.box w (.cells #[.func (.func hf) #[rv] #[]] 124);have HC:Hid (Calls Tryz.prog 78 #[.slice A l.length cap,.func (.func 79) #[] #[.pointer (some ⟨w.heap.size,0,none⟩)]] (w.alloc (.cells #[.func (.func hf) #[rv] #[]] 124)) fun e w'=>e = .returned (.bool (l.any fun x=>!q x)) ∧ Ext (w.alloc (.cells #[.func (.func hf) #[rv] #[]] 124)) w'):=by
  exact (Q7v _ _ l 79 _ (fun x=>!q x) (hv.ext hx0) (enters_of Tryz.func79 (by kernel_rfl) rfl) (fun W x hx hm=>Z1s W x w.heap.size hf rv (q x) eg ((k0.ext hx).cell 0) (hq W x (hx0.trans hx) hm)))
 have HX0:=Lib.hid hx0;obtain ⟨r,hr⟩:∃ r,(l.any fun x=>!q x) = r:=⟨_,rfl⟩
 rw [hr] at HC ⊢;clear hv hq hx0 k0 hr;go_enter Tryz.func77,Tryz.ntmps77;go_wp2_with (go_at_call 78; refine HC.out.mono ?_; rintro e w9 ⟨rfl,hx9⟩);go_ret;exact ⟨rfl,HX0.out.trans hx9⟩
def Z0s (s:Nat) (l:List Int):Bool:=l.any fun x=>Q2u x.toNat s == 0
theorem Z1c (w:World) (x:Int) (B s:Nat) (hx0:0 ≤ x) (hx1:x < 2 ^ 62) (hs:s < 2 ^ 62) (hB:w.cell? ⟨B,0,none⟩ = some (.int .i64 s)) :
    Calls Tryz.prog 81 #[.int .i64 x,.pointer (some ⟨B,0,none⟩)] w fun e w'=>e = .returned (.bool (Q2u x.toNat s == 0)) ∧ Ext w w':=by
 obtain ⟨a,rfl⟩:∃ a:Nat,x = (a:Int):=⟨x.toNat,by omega⟩
 rw [Int.toNat_natCast];have han:=Q9v (a:=a) (b:=s) (by omega) hs
 have hz:((Q2u a s:Nat) == 0) = (((Q2u a s:Nat):Int) == 0):=by rw [Bool.eq_iff_iff]; simp
 rw [hz];obtain ⟨y,hy⟩:∃ y,Q2u a s = y:=⟨_,rfl⟩;rw [hy] at han ⊢;obtain ⟨r,hr⟩:∃ r,((y:Int) == 0) = r:=⟨_,rfl⟩;rw [hr];clear hy hz hx0 hx1 hs;go_enter Tryz.func81,Tryz.ntmps81;go_wp2;go_ret;exact ⟨rfl,Ext.refl _⟩
set_option maxHeartbeats 400000 in
theorem Y0e (w:World) (v:Value) (l:List Int) (s:Nat) (hv:Q0f w v l) (hs:s < 2 ^ 62) (hl:∀ x ∈ l,0 ≤ x ∧ x < 2 ^ 62) :
    Calls Tryz.prog 80 #[.int .i64 s,v] w fun e w'=>e = .returned (.bool (Z0s s l)) ∧ Ext w w':=by
 obtain ⟨A,cap,rfl,_,_,_⟩:=hv.opened;have k0:=Blk.made w 3 #[.int .i64 s];have hx0:=Ext.box w (.cells #[.int .i64 s] 3);have HC:Hid (Calls Tryz.prog 78 #[.slice A l.length cap,.func (.func 81) #[] #[.pointer (some ⟨w.heap.size,0,none⟩)]] (w.alloc (.cells #[.int .i64 s] 3)) fun e w'=>e = .returned (.bool (Z0s s l)) ∧ Ext (w.alloc (.cells #[.int .i64 s] 3)) w'):=by
  exact (Q7v _ _ l 81 _ (fun x=>Q2u x.toNat s == 0) (hv.ext hx0) (enters_of Tryz.func81 (by kernel_rfl) rfl) (fun W x hx hm=>Z1c W x w.heap.size s (hl x hm).1 (hl x hm).2 hs ((k0.ext hx).cell 0)))
 have HX0:=Lib.hid hx0;obtain ⟨r,hr⟩:∃ r,Z0s s l = r:=⟨_,rfl⟩;rw [hr] at HC ⊢;clear hv hx0 k0 hr hl hs;go_enter Tryz.func80,Tryz.ntmps80;go_wp2_with (go_at_call 78; refine HC.out.mono ?_; rintro e w9 ⟨rfl,hx9⟩);go_ret;exact ⟨rfl,HX0.out.trans hx9⟩
end Go.Proofs
