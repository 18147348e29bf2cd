/- The contract of the reference's sets, in order. -/
import Derived.Test.YthfanledageoeaaGreatDoorYb10
set_option linter.unusedVariables false
set_option linter.unusedSimpArgs false
set_option linter.constructorNameAsVariable false
namespace Go.Proofs
open Go.RowKit Go.Tw Go.Flow
theorem Tryz.info39:(Tryz.prog.info? 39).map (fun i=>(i.zero,i.size,i.bytes)) = some (some (.slice none 0 0),1,24):=by kernel_rfl
def pow2 (n:Nat):Nat:=2 ^ n
theorem pow2_le {n:Nat} (h:n ≤ 12):pow2 n ≤ 4096:=by
 have:(2:Nat) ^ n ≤ 2 ^ 12:=Nat.pow_le_pow_right (by omega) h
 exact this
theorem power2_any (w:World) (n:Nat) (hn:n ≤ 12) :
    Calls Tryz.prog 85 #[.int .i64 2,.int .i64 n] w fun e w'=>e = .returned (.int .i64 (pow2 n)) ∧ w = w' :=
 power_any w 2 n (by omega) (Nat.le_trans (Nat.pow_le_pow_right (n:=2) (by omega) hn) (by decide)) (by omega) (by omega)
def setsTo (t:Tree) (p:Bool) (n:Nat):List (List Int):=(List.range n).foldl (fun out s=>if t.minimalB (bitsOf s) p then insertBack (bitsOf s) out else out) []
theorem setsTo_succ (t:Tree) (p:Bool) (n:Nat):setsTo t p (n + 1) = if t.minimalB (bitsOf n) p then insertBack (bitsOf n) (setsTo t p n) else setsTo t p n:=by
 unfold setsTo; rw [List.range_succ,List.foldl_append]; rfl
theorem posBack_le (l:List Int) (out:List (List Int)):∀ n,posBack l out n ≤ n
 | 0=>Nat.le_refl _
 | n + 1=>by
   unfold posBack
   split
   · exact Nat.le_trans (posBack_le l out n) (by omega)
   · exact Nat.le_refl _
theorem insertBack_len (l:List Int) (out:List (List Int)):(insertBack l out).length = out.length + 1:=by
 have:=posBack_le l out out.length
 unfold insertBack; simp; omega
theorem setsTo_len (t:Tree) (p:Bool) (n:Nat):(setsTo t p n).length ≤ n:=by
 induction n with
 | zero=>simp [setsTo]
 | succ n ih =>
   rw [setsTo_succ]
   split
   · rw [insertBack_len]; omega
   · omega
set_option maxRecDepth 100000 in
set_option maxHeartbeats 2000000 in
theorem sets_any (w:World) (v:Value) (t:Tree) (p:Bool) (hfit:Fit t) (hn:1 ≤ t.nodes) (hs:t.size ≤ 12) (ht:IsTree w v t) :
    Calls Tryz.prog 72 #[v,.bool p] w fun e w'=>∃ x,e = .returned x ∧ IsIntss w' x (t.sets p) ∧ Ext w w':=by
 obtain ⟨i0,hi,hz0,hz1,hz2⟩:=info_parts Tryz.info39
 obtain ⟨a,b,c,rfl,h3⟩:=ht
 have hw:=Ext.box w (.cells #[a,b,c] 26)
 have c0:=cell_new w #[a,b,c] 26 0
 have c1:=cell_new w #[a,b,c] 26 1
 have c2:=cell_new w #[a,b,c] 26 2
 have HT:=Lib.hid (h3.ext hw)
 have HF:=Lib.hid hfit
 have hp2:=pow2_le hs
 clear h3 hfit
 go_enter Tryz.func72,Tryz.ntmps72
 go_wp2
 obtain ⟨W,hW⟩:∃ W,w.alloc (.cells #[a,b,c] 26) = W:=⟨_,rfl⟩
 rw [hW] at c0 c1 c2 hw HT ⊢
 simp only [List.getElem?_toArray,List.getElem?_cons_zero,List.getElem?_cons_succ] at c0 c1 c2
 have hbW:=World.block_lt_of_cell? W _ c0
 clear hW
 go_loopw [5,6] (fun o i wr=>∃ (k:Nat) (vs:List Value),k ≤ pow2 t.size ∧ i = .int .i64 k ∧ Own1 wr W.heap.size 39 idV o vs ∧ Reads wr vs (setsTo t p k) ∧ Ext W wr) (fun _ i _=>pow2 t.size - (intOf i).toNat)
 case atStart=>exact ⟨0,[],Nat.zero_le _,rfl,Own1.nil _ _ _ _,⟨rfl,fun i hi=>by simp [setsTo] at hi⟩,Ext.refl _⟩
 case round =>
  obtain ⟨k,vs,hk,rfl,hown,hrd,hx⟩:=hrel
  have d0:=hx.cell c0
  have d1:=hx.cell c1
  have d2:=hx.cell c2
  clear c0 c1 c2
  go_wp2_with fail
  refine (Size_any _ _ t ⟨_,_,_,rfl,HT.out.ext hx⟩).mono ?_
  rintro e w1 ⟨rfl,hx1⟩
  go_wp2_with fail
  refine (power2_any _ _ hs).mono ?_
  rintro e w1' ⟨rfl,rfl⟩
  replace hown:=hown.below hx1
  replace hrd:=hrd.ext hx1
  replace hx:=hx.trans hx1
  replace d0:=hx1.cell d0
  replace d1:=hx1.cell d1
  replace d2:=hx1.cell d2
  clear hx1
  by_cases hlt:k < pow2 t.size
  · go_wp2_with fail
    refine (Members_any _ k (by omega)).mono ?_
    rintro e w2 ⟨lv,rfl,hlv,hx2⟩
    replace d0:=hx2.cell d0
    replace d1:=hx2.cell d1
    replace d2:=hx2.cell d2
    go_wp2_with fail
    refine (minimal_any _ _ _ t (bitsOf k) p HF.out hn ⟨_,_,_,rfl,HT.out.ext (hx.trans hx2)⟩ hlv).mono ?_
    rintro e w3 ⟨rfl,hx3⟩
    replace hown:=(hown.below hx2).below hx3
    replace hrd:=(hrd.ext hx2).ext hx3
    have hx':=(hx.trans hx2).trans hx3
    replace hlv:=hlv.ext hx3
    clear hx d0 d1 d2 hx2 hx3 w1 w2
    have hst:=setsTo_succ t p k
    have HST:=Lib.hid hst; clear hst
    cases hm:t.minimalB (bitsOf k) p with
    | false =>
      go_wp2
      go_roundw
      case rel=>exact ⟨k + 1,vs,by omega,by go_num,hown,by rw [HST.out,hm]; exact hrd,hx'⟩
      case measure=>simp [intOf]; omega
    | true =>
      have hvl:vs.length ≤ 4096:=by rw [hrd.1]; exact Nat.le_trans (setsTo_len t p k) (by omega)
      have HM:=Lib.hid hm
      have HRD:=Lib.hid hrd
      obtain ⟨Al,cal,rfl,hll,_,_⟩:=hlv.opened
      have HLV:=Lib.hid hlv
      have HONE:Hid (∀ y ∈ vs,(idV y).oneCell' = true):=hrd.one
      rcases hown.cells2 with ⟨rfl,hve⟩ | ⟨g0,cc,rfl,hcc,hbg,hgl,hcl⟩
      · have HVE:=Lib.hid hve
        clear hm hrd hlv hown hve
        go_wp2
        go_loopw [8] (fun a wr=>∃ (n:Nat),n ≤ vs.length ∧ a = .int .i64 n ∧ posBack (bitsOf k) (setsTo t p k) n = posBack (bitsOf k) (setsTo t p k) (setsTo t p k).length ∧ Ext w3 wr) (fun a _=>(intOf a).toNat)
        case atStart=>exact ⟨vs.length,Nat.le_refl _,by rw [HVE.out]; rfl,by rw [HRD.out.1],Ext.refl _⟩
        case round =>
         obtain ⟨n,hnl,rfl,hpos,hxi⟩:=hrel
         have HPOS:=Lib.hid hpos; clear hpos
         by_cases hz:n = 0
         · have HZ:Hid (0 = posBack (bitsOf k) (setsTo t p k) (setsTo t p k).length):=by rw [← HPOS.out,hz]; exact rfl
           subst hz
           go_wp2
           refine Flow.region [.world,.plain,.plain,.plain,.world,.plain,.world,.last,.plain,.plain,.plain,.last,.last] [0,1,2,3,4,5,6,7,8,9,10,11,12] [[],[],[],[1,2],[0,1,2,3],[],[5],[0,1,2,3,4,5,6],[],[],[8,9],[0,1,2,3,4,5,6,7,8,9,10],[0,1,2,3,4,5,6,7,8,9,10,11]] [7,11,12]
            [⟨fun v wz=>EmptyRow wz (v 0) wr.heap.size 39,fun _ _ _ hx h=>h.ext hx⟩,.is 1 (fun v=>.slice (none) 0 0),.is 2 (fun v=>.int .i64 0),.is 3 (fun v=>.slice none 0 0),⟨fun v wz=>(fun v w'=>Own1 w' wr.heap.size 39 idV (v 4) (vs.take 0)) v wz,fun _ _ _ hx h=>Own1.below h hx⟩,.is 5 (fun v=>(Value.slice Al (bitsOf k).length cal)),⟨fun v wz=>OneRow wz (v 6) (Value.slice Al (bitsOf k).length cal),fun _ _ _ hx h=>h.ext hx⟩,.none,.is 8 (fun v=>.slice (none) 0 0),.is 9 (fun v=>.int .i64 0),.is 10 (fun v=>.slice none 0 0),.none,.none]
            [fun v w1 w'=>Own1 w' wr.heap.size 39 idV (v 7) (vs.take 0 ++ [(Value.slice Al (bitsOf k).length cal)]) ∧ Below wr.heap.size w1 w',fun v w1 w'=>Own1 w' wr.heap.size 39 idV (v 11) (vs.take 0 ++ [(Value.slice Al (bitsOf k).length cal)] ++ vs.drop 0) ∧ Below wr.heap.size w1 w',fun v w1 w'=>v 12 = v 11 ∧ Own1 w' wr.heap.size 39 idV (v 11) (vs.take 0 ++ [(Value.slice Al (bitsOf k).length cal)] ++ vs.drop 0) ∧ Below wr.heap.size w1 w'] (by kernel_rfl) rfl (by kernel_rfl) ⟨?g0,?g1,?g2,?g3,?g4,?g5,?g6,?g7,?g8,?g9,?g10,?g11,?g12,trivial⟩ ?post
           case g0 =>
            intro v w1 hx
            intro K hK
            go_simp
            exact hK _ _ (Ext.box _ _) (EmptyRow.made _ _ _ hx.size)
           case g1 =>
            intro v w1 hx
            refine ⟨_,fun w=>?_,rfl⟩
            go_simp
           case g2 =>
            intro v w1 hx
            refine ⟨_,fun w=>?_,rfl⟩
            go_simp
           case g3 =>
            intro v w1 hx (q1:v 1 = .slice (none) 0 0) (q2:v 2 = .int .i64 0)
            refine ⟨_,fun w=>?_,rfl⟩
            go_simp
           case g4 =>
            intro v w1 hx (q0:EmptyRow w1 (v 0) wr.heap.size 39) (q1:v 1 = .slice (none) 0 0) (q2:v 2 = .int .i64 0) (q3:v 3 = .slice none 0 0)
            intro K hK
            have l1:(vs.take 0).length = 0:=by rw [List.length_take]; omega
            refine gives_append_zero _ _ 29 rfl wr.heap.size 39 i0 (.slice none 0 0) 24 Tryz.underlying29 hi hz0 hz1 hz2 rfl idV (v 0) (v 3) (vs.take 0) (by go_simp) q0 (by go_simp) ?_ (fun y hy=>HONE.out y (List.mem_of_mem_take hy)) (by omega) (by decide) hx.size (fun v' w' hown hx2=>hK _ _ hx2 hown)
            rw [q3]
            exact ⟨none,0,by rw [l1],fun j hj=>by rw [l1] at hj; omega⟩
           case g5 =>
            intro v w1 hx
            refine ⟨_,fun w=>?_,rfl⟩
            go_simp
           case g6 =>
            intro v w1 hx (q5:v 5 = (Value.slice Al (bitsOf k).length cal))
            intro K hK
            go_simp
            exact hK _ _ (Ext.box _ _) (OneRow.made _ _ _)
           case g7 =>
            intro v w1 hx (q0:EmptyRow w1 (v 0) wr.heap.size 39) (q1:v 1 = .slice (none) 0 0) (q2:v 2 = .int .i64 0) (q3:v 3 = .slice none 0 0) (q4:(fun v w'=>Own1 w' wr.heap.size 39 idV (v 4) (vs.take 0)) v w1) (q5:v 5 = (Value.slice Al (bitsOf k).length cal)) (q6:OneRow w1 (v 6) (Value.slice Al (bitsOf k).length cal))
            intro wl hT
            obtain rfl:wl = w1:=hT
            intro bb hbb
            subst hbb
            intro K hK
            refine gives_append_row _ _ 29 rfl wr.heap.size 39 i0 (.slice none 0 0) 24 Tryz.underlying29 hi hz0 hz1 hz2 rfl idV (v 4) (v 6) (vs.take 0) [(Value.slice Al (bitsOf k).length cal)] (by go_simp) q4 (by go_simp) (OneRow.src q6) (fun y hy=>by rw [List.mem_singleton] at hy; rw [hy]; exact HLV.out.one) (by rw [List.length_take,List.length_singleton]; omega) (by decide) hx.size (fun v' w' hown hg=>hK _ _ ⟨hown,below_grown q4 hg (Nat.le_refl _) hx.size⟩)
           case g8 =>
            intro v w1 hx
            refine ⟨_,fun w=>?_,rfl⟩
            go_simp
           case g9 =>
            intro v w1 hx
            refine ⟨_,fun w=>?_,rfl⟩
            go_simp
           case g10 =>
            intro v w1 hx (q8:v 8 = .slice (none) 0 0) (q9:v 9 = .int .i64 0)
            refine ⟨_,fun w=>?_,rfl⟩
            go_simp
           case g11 =>
            intro v w1 hx (q0:EmptyRow w1 (v 0) wr.heap.size 39) (q1:v 1 = .slice (none) 0 0) (q2:v 2 = .int .i64 0) (q3:v 3 = .slice none 0 0) (q4:(fun v w'=>Own1 w' wr.heap.size 39 idV (v 4) (vs.take 0)) v w1) (q5:v 5 = (Value.slice Al (bitsOf k).length cal)) (q6:OneRow w1 (v 6) (Value.slice Al (bitsOf k).length cal)) (q8:v 8 = .slice (none) 0 0) (q9:v 9 = .int .i64 0) (q10:v 10 = .slice none 0 0)
            intro wl hT
            replace hT:(fun v w1 w'=>Own1 w' wr.heap.size 39 idV (v 7) (vs.take 0 ++ [(Value.slice Al (bitsOf k).length cal)]) ∧ Below wr.heap.size w1 w') v w1 wl:=hT
            intro bb hbb
            subst hbb
            obtain ⟨hT1,hT2⟩:=hT
            intro K hK
            have hsz:wr.heap.size ≤ wl.heap.size:=Nat.le_trans hx.size hT2.size
            have l2:(vs.drop 0).length = vs.length - 0:=List.length_drop
            refine gives_append_row _ _ 29 rfl wr.heap.size 39 i0 (.slice none 0 0) 24 Tryz.underlying29 hi hz0 hz1 hz2 rfl idV (v 7) (v 10) (vs.take 0 ++ [(Value.slice Al (bitsOf k).length cal)]) (vs.drop 0) (by go_simp) hT1 (by go_simp) ?_ (fun y hy=>HONE.out y (List.mem_of_mem_drop hy)) (by rw [List.length_append,List.length_take,List.length_singleton]; omega) (by decide) hsz (fun v' w' hown hg=>hK _ _ ⟨hown,hT2.trans (below_grown hT1 hg (Nat.le_refl _) hsz)⟩)
            rw [q10]
            exact ⟨none,0,by rw [l2,HVE.out]; rfl,fun j hj=>by rw [l2,HVE.out] at hj; simp at hj⟩
           case g12 =>
            intro v w1 hx (q0:EmptyRow w1 (v 0) wr.heap.size 39) (q1:v 1 = .slice (none) 0 0) (q2:v 2 = .int .i64 0) (q3:v 3 = .slice none 0 0) (q4:(fun v w'=>Own1 w' wr.heap.size 39 idV (v 4) (vs.take 0)) v w1) (q5:v 5 = (Value.slice Al (bitsOf k).length cal)) (q6:OneRow w1 (v 6) (Value.slice Al (bitsOf k).length cal)) (q8:v 8 = .slice (none) 0 0) (q9:v 9 = .int .i64 0) (q10:v 10 = .slice none 0 0)
            intro wl hT
            replace hT:(fun v w1 w'=>Own1 w' wr.heap.size 39 idV (v 11) (vs.take 0 ++ [(Value.slice Al (bitsOf k).length cal)] ++ vs.drop 0) ∧ Below wr.heap.size w1 w') v w1 wl:=hT
            intro bb hbb
            subst hbb
            intro K hK
            go_simp
            exact hK _ _ ⟨rfl,hT⟩
           case post =>
            intro v w1 hx (q0:EmptyRow w1 (v 0) wr.heap.size 39) (q1:v 1 = .slice (none) 0 0) (q2:v 2 = .int .i64 0) (q3:v 3 = .slice none 0 0) (q4:(fun v w'=>Own1 w' wr.heap.size 39 idV (v 4) (vs.take 0)) v w1) (q5:v 5 = (Value.slice Al (bitsOf k).length cal)) (q6:OneRow w1 (v 6) (Value.slice Al (bitsOf k).length cal)) (q8:v 8 = .slice (none) 0 0) (q9:v 9 = .int .i64 0) (q10:v 10 = .slice none 0 0)
            intro w2 hE
            replace hE:(fun v w1 w'=>v 12 = v 11 ∧ Own1 w' wr.heap.size 39 idV (v 11) (vs.take 0 ++ [(Value.slice Al (bitsOf k).length cal)] ++ vs.drop 0) ∧ Below wr.heap.size w1 w') v w1 w2:=hE
            simp only [Flow.acts,Act.put]
            go_simp
            obtain ⟨_,e2,e3⟩:=hE
            have hx9:=below_ext hx e3
            have hrd9:=Reads.insert (HRD.out.ext (hxi.trans hx9)) (HLV.out.ext (hxi.trans hx9)) (show 0 ≤ (setsTo t p k).length by have:=HRD.out.1; omega)
            have hown9:=e2.weaken (show W.heap.size ≤ wr.heap.size from Nat.le_trans hx'.size hxi.size)
            have hst9:setsTo t p (k + 1) = (setsTo t p k).take 0 ++ [bitsOf k] ++ (setsTo t p k).drop 0:=by rw [HST.out,HM.out,if_pos rfl,HZ.out]; rfl
            have HST9:=Lib.hid hst9
            have HR9:=Lib.hid hrd9
            have hxz:=(hx'.trans hxi).trans hx9
            clear hst9 hrd9 q0 q4 q6 hx e3 hx9
            go_wp2
            all_goals
             go_roundw
             case rel=>exact ⟨k + 1,vs.take 0 ++ [(Value.slice Al (bitsOf k).length cal)] ++ vs.drop 0,by omega,by go_num,hown9,by rw [HST9.out]; exact HR9.out,hxz⟩
             case measure=>simp [intOf]; omega
         · have:=HVE.out
           rw [this] at hnl
           simp at hnl
           omega
      · have HCL:=Lib.hid hcl
        clear hm hrd hlv hown hcl
        go_wp2
        go_loopw [8] (fun a wr=>∃ (n:Nat),n ≤ vs.length ∧ a = .int .i64 n ∧ posBack (bitsOf k) (setsTo t p k) n = posBack (bitsOf k) (setsTo t p k) (setsTo t p k).length ∧ Ext w3 wr) (fun a _=>(intOf a).toNat)
        case atStart=>exact ⟨vs.length,Nat.le_refl _,rfl,by rw [HRD.out.1],Ext.refl _⟩
        case round =>
         obtain ⟨n,hnl,rfl,hpos,hxi⟩:=hrel
         have HPOS:=Lib.hid hpos; clear hpos
         by_cases hz:n = 0
         · have HZ:Hid (n = posBack (bitsOf k) (setsTo t p k) (setsTo t p k).length):=by rw [← HPOS.out,hz]; exact rfl
           have nz1:¬ (0:Int) < (n:Int):=by omega
           have nz2:¬ cc < n:=by omega
           clear hz
           go_wp2
           refine Flow.region [.world,.plain,.plain,.plain,.world,.plain,.world,.last,.plain,.plain,.plain,.last,.last] [0,1,2,3,4,5,6,7,8,9,10,11,12] [[],[],[],[1,2],[0,1,2,3],[],[5],[0,1,2,3,4,5,6],[],[],[8,9],[0,1,2,3,4,5,6,7,8,9,10],[0,1,2,3,4,5,6,7,8,9,10,11]] [7,11,12]
            [⟨fun v wz=>EmptyRow wz (v 0) wr.heap.size 39,fun _ _ _ hx h=>h.ext hx⟩,.is 1 (fun v=>.slice (some ⟨g0,0,none⟩) vs.length cc),.is 2 (fun v=>.int .i64 n),.is 3 (fun v=>.slice (some ⟨g0,0,none⟩) n cc),⟨fun v wz=>(fun v w'=>Own1 w' wr.heap.size 39 idV (v 4) (vs.take n)) v wz,fun _ _ _ hx h=>Own1.below h hx⟩,.is 5 (fun v=>(Value.slice Al (bitsOf k).length cal)),⟨fun v wz=>OneRow wz (v 6) (Value.slice Al (bitsOf k).length cal),fun _ _ _ hx h=>h.ext hx⟩,.none,.is 8 (fun v=>.slice (some ⟨g0,0,none⟩) vs.length cc),.is 9 (fun v=>.int .i64 n),.is 10 (fun v=>.slice (if cc = n then some ⟨g0,0,none⟩ else some ⟨g0,0 + n,none⟩) (vs.length - n) (cc - n)),.none,.none]
            [fun v w1 w'=>Own1 w' wr.heap.size 39 idV (v 7) (vs.take n ++ [(Value.slice Al (bitsOf k).length cal)]) ∧ Below wr.heap.size w1 w',fun v w1 w'=>Own1 w' wr.heap.size 39 idV (v 11) (vs.take n ++ [(Value.slice Al (bitsOf k).length cal)] ++ vs.drop n) ∧ Below wr.heap.size w1 w',fun v w1 w'=>v 12 = v 11 ∧ Own1 w' wr.heap.size 39 idV (v 11) (vs.take n ++ [(Value.slice Al (bitsOf k).length cal)] ++ vs.drop n) ∧ Below wr.heap.size w1 w'] (by kernel_rfl) rfl (by kernel_rfl) ⟨?g0,?g1,?g2,?g3,?g4,?g5,?g6,?g7,?g8,?g9,?g10,?g11,?g12,trivial⟩ ?post
           case g0 =>
            intro v w1 hx
            intro K hK
            go_simp
            exact hK _ _ (Ext.box _ _) (EmptyRow.made _ _ _ hx.size)
           case g1 =>
            intro v w1 hx
            refine ⟨_,fun w=>?_,rfl⟩
            go_simp
           case g2 =>
            intro v w1 hx
            refine ⟨_,fun w=>?_,rfl⟩
            go_simp
           case g3 =>
            intro v w1 hx (q1:v 1 = .slice (some ⟨g0,0,none⟩) vs.length cc) (q2:v 2 = .int .i64 n)
            refine ⟨_,fun w=>?_,rfl⟩
            go_simp
           case g4 =>
            intro v w1 hx (q0:EmptyRow w1 (v 0) wr.heap.size 39) (q1:v 1 = .slice (some ⟨g0,0,none⟩) vs.length cc) (q2:v 2 = .int .i64 n) (q3:v 3 = .slice (some ⟨g0,0,none⟩) n cc)
            intro K hK
            have l1:(vs.take n).length = n:=by rw [List.length_take]; omega
            refine gives_append_zero _ _ 29 rfl wr.heap.size 39 i0 (.slice none 0 0) 24 Tryz.underlying29 hi hz0 hz1 hz2 rfl idV (v 0) (v 3) (vs.take n) (by go_simp) q0 (by go_simp) ?_ (fun y hy=>HONE.out y (List.mem_of_mem_take hy)) (by omega) (by decide) hx.size (fun v' w' hown hx2=>hK _ _ hx2 hown)
            rw [q3]
            exact ⟨_,_,by rw [l1],fun j hj=>⟨g0,0,rfl,by rw [List.getElem_take]; exact hx.cell (hxi.cell (HCL.out j (by omega)))⟩⟩
           case g5 =>
            intro v w1 hx
            refine ⟨_,fun w=>?_,rfl⟩
            go_simp
           case g6 =>
            intro v w1 hx (q5:v 5 = (Value.slice Al (bitsOf k).length cal))
            intro K hK
            go_simp
            exact hK _ _ (Ext.box _ _) (OneRow.made _ _ _)
           case g7 =>
            intro v w1 hx (q0:EmptyRow w1 (v 0) wr.heap.size 39) (q1:v 1 = .slice (some ⟨g0,0,none⟩) vs.length cc) (q2:v 2 = .int .i64 n) (q3:v 3 = .slice (some ⟨g0,0,none⟩) n cc) (q4:(fun v w'=>Own1 w' wr.heap.size 39 idV (v 4) (vs.take n)) v w1) (q5:v 5 = (Value.slice Al (bitsOf k).length cal)) (q6:OneRow w1 (v 6) (Value.slice Al (bitsOf k).length cal))
            intro wl hT
            obtain rfl:wl = w1:=hT
            intro bb hbb
            subst hbb
            intro K hK
            refine gives_append_row _ _ 29 rfl wr.heap.size 39 i0 (.slice none 0 0) 24 Tryz.underlying29 hi hz0 hz1 hz2 rfl idV (v 4) (v 6) (vs.take n) [(Value.slice Al (bitsOf k).length cal)] (by go_simp) q4 (by go_simp) (OneRow.src q6) (fun y hy=>by rw [List.mem_singleton] at hy; rw [hy]; exact HLV.out.one) (by rw [List.length_take,List.length_singleton]; omega) (by decide) hx.size (fun v' w' hown hg=>hK _ _ ⟨hown,below_grown q4 hg (Nat.le_refl _) hx.size⟩)
           case g8 =>
            intro v w1 hx
            refine ⟨_,fun w=>?_,rfl⟩
            go_simp
           case g9 =>
            intro v w1 hx
            refine ⟨_,fun w=>?_,rfl⟩
            go_simp
           case g10 =>
            intro v w1 hx (q8:v 8 = .slice (some ⟨g0,0,none⟩) vs.length cc) (q9:v 9 = .int .i64 n)
            refine ⟨_,fun w=>?_,rfl⟩
            go_simp
           case g11 =>
            intro v w1 hx (q0:EmptyRow w1 (v 0) wr.heap.size 39) (q1:v 1 = .slice (some ⟨g0,0,none⟩) vs.length cc) (q2:v 2 = .int .i64 n) (q3:v 3 = .slice (some ⟨g0,0,none⟩) n cc) (q4:(fun v w'=>Own1 w' wr.heap.size 39 idV (v 4) (vs.take n)) v w1) (q5:v 5 = (Value.slice Al (bitsOf k).length cal)) (q6:OneRow w1 (v 6) (Value.slice Al (bitsOf k).length cal)) (q8:v 8 = .slice (some ⟨g0,0,none⟩) vs.length cc) (q9:v 9 = .int .i64 n) (q10:v 10 = .slice (if cc = n then some ⟨g0,0,none⟩ else some ⟨g0,0 + n,none⟩) (vs.length - n) (cc - n))
            intro wl hT
            replace hT:(fun v w1 w'=>Own1 w' wr.heap.size 39 idV (v 7) (vs.take n ++ [(Value.slice Al (bitsOf k).length cal)]) ∧ Below wr.heap.size w1 w') v w1 wl:=hT
            intro bb hbb
            subst hbb
            obtain ⟨hT1,hT2⟩:=hT
            intro K hK
            have hsz:wr.heap.size ≤ wl.heap.size:=Nat.le_trans hx.size hT2.size
            have l2:(vs.drop n).length = vs.length - n:=List.length_drop
            have hc2:Hid (∀ j (hj:j < vs.length),wl.cell? ⟨g0,0 + j,none⟩ = some (idV vs[j])):=fun j hj=>(hT2.cell (p:=⟨g0,0 + j,none⟩) (Nat.lt_of_lt_of_le hgl hxi.size)).trans (hx.cell (hxi.cell (HCL.out j hj)))
            refine gives_append_row _ _ 29 rfl wr.heap.size 39 i0 (.slice none 0 0) 24 Tryz.underlying29 hi hz0 hz1 hz2 rfl idV (v 7) (v 10) (vs.take n ++ [(Value.slice Al (bitsOf k).length cal)]) (vs.drop n) (by go_simp) hT1 (by go_simp) ?_ (fun y hy=>HONE.out y (List.mem_of_mem_drop hy)) (by rw [List.length_append,List.length_take,List.length_singleton]; omega) (by decide) hsz (fun v' w' hown hg=>hK _ _ ⟨hown,hT2.trans (below_grown hT1 hg (Nat.le_refl _) hsz)⟩)
            rw [q10]
            exact ⟨_,_,by rw [l2],fun j hj=>⟨g0,0 + n,by rw [if_neg (by omega)],by rw [List.getElem_drop,Nat.add_assoc]; exact hc2.out (n + j) (by omega)⟩⟩
           case g12 =>
            intro v w1 hx (q0:EmptyRow w1 (v 0) wr.heap.size 39) (q1:v 1 = .slice (some ⟨g0,0,none⟩) vs.length cc) (q2:v 2 = .int .i64 n) (q3:v 3 = .slice (some ⟨g0,0,none⟩) n cc) (q4:(fun v w'=>Own1 w' wr.heap.size 39 idV (v 4) (vs.take n)) v w1) (q5:v 5 = (Value.slice Al (bitsOf k).length cal)) (q6:OneRow w1 (v 6) (Value.slice Al (bitsOf k).length cal)) (q8:v 8 = .slice (some ⟨g0,0,none⟩) vs.length cc) (q9:v 9 = .int .i64 n) (q10:v 10 = .slice (if cc = n then some ⟨g0,0,none⟩ else some ⟨g0,0 + n,none⟩) (vs.length - n) (cc - n))
            intro wl hT
            replace hT:(fun v w1 w'=>Own1 w' wr.heap.size 39 idV (v 11) (vs.take n ++ [(Value.slice Al (bitsOf k).length cal)] ++ vs.drop n) ∧ Below wr.heap.size w1 w') v w1 wl:=hT
            intro bb hbb
            subst hbb
            intro K hK
            go_simp
            exact hK _ _ ⟨rfl,hT⟩
           case post =>
            intro v w1 hx (q0:EmptyRow w1 (v 0) wr.heap.size 39) (q1:v 1 = .slice (some ⟨g0,0,none⟩) vs.length cc) (q2:v 2 = .int .i64 n) (q3:v 3 = .slice (some ⟨g0,0,none⟩) n cc) (q4:(fun v w'=>Own1 w' wr.heap.size 39 idV (v 4) (vs.take n)) v w1) (q5:v 5 = (Value.slice Al (bitsOf k).length cal)) (q6:OneRow w1 (v 6) (Value.slice Al (bitsOf k).length cal)) (q8:v 8 = .slice (some ⟨g0,0,none⟩) vs.length cc) (q9:v 9 = .int .i64 n) (q10:v 10 = .slice (if cc = n then some ⟨g0,0,none⟩ else some ⟨g0,0 + n,none⟩) (vs.length - n) (cc - n))
            intro w2 hE
            replace hE:(fun v w1 w'=>v 12 = v 11 ∧ Own1 w' wr.heap.size 39 idV (v 11) (vs.take n ++ [(Value.slice Al (bitsOf k).length cal)] ++ vs.drop n) ∧ Below wr.heap.size w1 w') v w1 w2:=hE
            simp only [Flow.acts,Act.put]
            go_simp
            obtain ⟨_,e2,e3⟩:=hE
            have hx9:=below_ext hx e3
            have hrd9:=Reads.insert (HRD.out.ext (hxi.trans hx9)) (HLV.out.ext (hxi.trans hx9)) (show n ≤ (setsTo t p k).length by have:=HRD.out.1; omega)
            have hown9:=e2.weaken (show W.heap.size ≤ wr.heap.size from Nat.le_trans hx'.size hxi.size)
            have hst9:setsTo t p (k + 1) = (setsTo t p k).take n ++ [bitsOf k] ++ (setsTo t p k).drop n:=by rw [HST.out,HM.out,if_pos rfl,HZ.out]; rfl
            have HST9:=Lib.hid hst9
            have HR9:=Lib.hid hrd9
            have hxz:=(hx'.trans hxi).trans hx9
            clear hst9 hrd9 q0 q4 q6 hx e3 hx9
            go_wp2
            all_goals
             go_roundw
             case rel=>exact ⟨k + 1,vs.take n ++ [(Value.slice Al (bitsOf k).length cal)] ++ vs.drop n,by omega,by go_num,hown9,by rw [HST9.out]; exact HR9.out,hxz⟩
             case measure=>simp [intOf]; omega
         · have i1:(0:Int) < (n:Int):=by omega
           have i2:(0:Int) ≤ (n:Int) - 1:=by omega
           have i3:(n:Int) - 1 < (vs.length:Int):=by omega
           have i4:((n:Int) - 1).toNat = n - 1:=by omega
           have nz2:¬ cc < n:=by omega
           have hcell:=hxi.cell (HCL.out (n - 1) (by omega))
           rw [Nat.zero_add] at hcell
           have hin:=(HRD.out.ext hxi).2 (n - 1) (by have:=HRD.out.1; omega)
           rw [getD_of _ (show n - 1 < vs.length by omega)] at hin
           replace hin:IsInts wr (idV (vs[n - 1]'(by omega))) ((setsTo t p k).getD (n - 1) []):=hin
           have hps:posBack (bitsOf k) (setsTo t p k) n = if beforeB (bitsOf k) ((setsTo t p k).getD (n - 1) []) then posBack (bitsOf k) (setsTo t p k) (n - 1) else n:=by
            obtain ⟨m,rfl⟩:∃ m,n = m + 1:=⟨n - 1,by omega⟩
            rfl
           obtain ⟨ml,hml⟩:∃ ml,(setsTo t p k).getD (n - 1) [] = ml:=⟨_,rfl⟩
           rw [hml] at hin hps
           have HPS:=Lib.hid hps
           have hzz:=Lib.hid hz
           clear hml
           clear hps hz
           cases hbf:beforeB (bitsOf k) ml with
           | true =>
             go_wp2_with (go_at_call 130; refine (before_any _ _ _ _ _ (HLV.out.ext hxi) hin).mono ?_; rintro e w4 ⟨rfl,hx4⟩)
             go_roundw
             case rel=>exact ⟨n - 1,by omega,by go_num,by rw [← HPOS.out,HPS.out,hbf]; rfl,hxi.trans hx4⟩
             case measure=>simp [intOf]; omega
           | false =>
             have HZ:Hid (n = posBack (bitsOf k) (setsTo t p k) (setsTo t p k).length):=by rw [← HPOS.out,HPS.out,hbf]; rfl
             go_wp2_with (go_at_call 130; refine (before_any _ _ _ _ _ (HLV.out.ext hxi) hin).mono ?_; rintro e w4 ⟨rfl,hx4⟩)
             replace hxi:=hxi.trans hx4
             clear hx4 hin hcell
             refine Flow.region [.world,.plain,.plain,.plain,.world,.plain,.world,.last,.plain,.plain,.plain,.last,.last] [0,1,2,3,4,5,6,7,8,9,10,11,12] [[],[],[],[1,2],[0,1,2,3],[],[5],[0,1,2,3,4,5,6],[],[],[8,9],[0,1,2,3,4,5,6,7,8,9,10],[0,1,2,3,4,5,6,7,8,9,10,11]] [7,11,12]
              [⟨fun v wz=>EmptyRow wz (v 0) w4.heap.size 39,fun _ _ _ hx h=>h.ext hx⟩,.is 1 (fun v=>.slice (some ⟨g0,0,none⟩) vs.length cc),.is 2 (fun v=>.int .i64 n),.is 3 (fun v=>.slice (some ⟨g0,0,none⟩) n cc),⟨fun v wz=>(fun v w'=>Own1 w' w4.heap.size 39 idV (v 4) (vs.take n)) v wz,fun _ _ _ hx h=>Own1.below h hx⟩,.is 5 (fun v=>(Value.slice Al (bitsOf k).length cal)),⟨fun v wz=>OneRow wz (v 6) (Value.slice Al (bitsOf k).length cal),fun _ _ _ hx h=>h.ext hx⟩,.none,.is 8 (fun v=>.slice (some ⟨g0,0,none⟩) vs.length cc),.is 9 (fun v=>.int .i64 n),.is 10 (fun v=>.slice (if cc = n then some ⟨g0,0,none⟩ else some ⟨g0,0 + n,none⟩) (vs.length - n) (cc - n)),.none,.none]
              [fun v w1 w'=>Own1 w' w4.heap.size 39 idV (v 7) (vs.take n ++ [(Value.slice Al (bitsOf k).length cal)]) ∧ Below w4.heap.size w1 w',fun v w1 w'=>Own1 w' w4.heap.size 39 idV (v 11) (vs.take n ++ [(Value.slice Al (bitsOf k).length cal)] ++ vs.drop n) ∧ Below w4.heap.size w1 w',fun v w1 w'=>v 12 = v 11 ∧ Own1 w' w4.heap.size 39 idV (v 11) (vs.take n ++ [(Value.slice Al (bitsOf k).length cal)] ++ vs.drop n) ∧ Below w4.heap.size w1 w'] (by kernel_rfl) rfl (by kernel_rfl) ⟨?g0,?g1,?g2,?g3,?g4,?g5,?g6,?g7,?g8,?g9,?g10,?g11,?g12,trivial⟩ ?post
             case g0 =>
              intro v w1 hx
              intro K hK
              go_simp
              exact hK _ _ (Ext.box _ _) (EmptyRow.made _ _ _ hx.size)
             case g1 =>
              intro v w1 hx
              refine ⟨_,fun w=>?_,rfl⟩
              go_simp
             case g2 =>
              intro v w1 hx
              refine ⟨_,fun w=>?_,rfl⟩
              go_simp
             case g3 =>
              intro v w1 hx (q1:v 1 = .slice (some ⟨g0,0,none⟩) vs.length cc) (q2:v 2 = .int .i64 n)
              refine ⟨_,fun w=>?_,rfl⟩
              go_simp
             case g4 =>
              intro v w1 hx (q0:EmptyRow w1 (v 0) w4.heap.size 39) (q1:v 1 = .slice (some ⟨g0,0,none⟩) vs.length cc) (q2:v 2 = .int .i64 n) (q3:v 3 = .slice (some ⟨g0,0,none⟩) n cc)
              intro K hK
              have l1:(vs.take n).length = n:=by rw [List.length_take]; omega
              refine gives_append_zero _ _ 29 rfl w4.heap.size 39 i0 (.slice none 0 0) 24 Tryz.underlying29 hi hz0 hz1 hz2 rfl idV (v 0) (v 3) (vs.take n) (by go_simp) q0 (by go_simp) ?_ (fun y hy=>HONE.out y (List.mem_of_mem_take hy)) (by omega) (by decide) hx.size (fun v' w' hown hx2=>hK _ _ hx2 hown)
              rw [q3]
              exact ⟨_,_,by rw [l1],fun j hj=>⟨g0,0,rfl,by rw [List.getElem_take]; exact hx.cell (hxi.cell (HCL.out j (by omega)))⟩⟩
             case g5 =>
              intro v w1 hx
              refine ⟨_,fun w=>?_,rfl⟩
              go_simp
             case g6 =>
              intro v w1 hx (q5:v 5 = (Value.slice Al (bitsOf k).length cal))
              intro K hK
              go_simp
              exact hK _ _ (Ext.box _ _) (OneRow.made _ _ _)
             case g7 =>
              intro v w1 hx (q0:EmptyRow w1 (v 0) w4.heap.size 39) (q1:v 1 = .slice (some ⟨g0,0,none⟩) vs.length cc) (q2:v 2 = .int .i64 n) (q3:v 3 = .slice (some ⟨g0,0,none⟩) n cc) (q4:(fun v w'=>Own1 w' w4.heap.size 39 idV (v 4) (vs.take n)) v w1) (q5:v 5 = (Value.slice Al (bitsOf k).length cal)) (q6:OneRow w1 (v 6) (Value.slice Al (bitsOf k).length cal))
              intro wl hT
              obtain rfl:wl = w1:=hT
              intro bb hbb
              subst hbb
              intro K hK
              refine gives_append_row _ _ 29 rfl w4.heap.size 39 i0 (.slice none 0 0) 24 Tryz.underlying29 hi hz0 hz1 hz2 rfl idV (v 4) (v 6) (vs.take n) [(Value.slice Al (bitsOf k).length cal)] (by go_simp) q4 (by go_simp) (OneRow.src q6) (fun y hy=>by rw [List.mem_singleton] at hy; rw [hy]; exact HLV.out.one) (by rw [List.length_take,List.length_singleton]; omega) (by decide) hx.size (fun v' w' hown hg=>hK _ _ ⟨hown,below_grown q4 hg (Nat.le_refl _) hx.size⟩)
             case g8 =>
              intro v w1 hx
              refine ⟨_,fun w=>?_,rfl⟩
              go_simp
             case g9 =>
              intro v w1 hx
              refine ⟨_,fun w=>?_,rfl⟩
              go_simp
             case g10 =>
              intro v w1 hx (q8:v 8 = .slice (some ⟨g0,0,none⟩) vs.length cc) (q9:v 9 = .int .i64 n)
              refine ⟨_,fun w=>?_,rfl⟩
              go_simp
             case g11 =>
              intro v w1 hx (q0:EmptyRow w1 (v 0) w4.heap.size 39) (q1:v 1 = .slice (some ⟨g0,0,none⟩) vs.length cc) (q2:v 2 = .int .i64 n) (q3:v 3 = .slice (some ⟨g0,0,none⟩) n cc) (q4:(fun v w'=>Own1 w' w4.heap.size 39 idV (v 4) (vs.take n)) v w1) (q5:v 5 = (Value.slice Al (bitsOf k).length cal)) (q6:OneRow w1 (v 6) (Value.slice Al (bitsOf k).length cal)) (q8:v 8 = .slice (some ⟨g0,0,none⟩) vs.length cc) (q9:v 9 = .int .i64 n) (q10:v 10 = .slice (if cc = n then some ⟨g0,0,none⟩ else some ⟨g0,0 + n,none⟩) (vs.length - n) (cc - n))
              intro wl hT
              replace hT:(fun v w1 w'=>Own1 w' w4.heap.size 39 idV (v 7) (vs.take n ++ [(Value.slice Al (bitsOf k).length cal)]) ∧ Below w4.heap.size w1 w') v w1 wl:=hT
              intro bb hbb
              subst hbb
              obtain ⟨hT1,hT2⟩:=hT
              intro K hK
              have hsz:w4.heap.size ≤ wl.heap.size:=Nat.le_trans hx.size hT2.size
              have l2:(vs.drop n).length = vs.length - n:=List.length_drop
              have hc2:Hid (∀ j (hj:j < vs.length),wl.cell? ⟨g0,0 + j,none⟩ = some (idV vs[j])):=fun j hj=>(hT2.cell (p:=⟨g0,0 + j,none⟩) (Nat.lt_of_lt_of_le hgl hxi.size)).trans (hx.cell (hxi.cell (HCL.out j hj)))
              refine gives_append_row _ _ 29 rfl w4.heap.size 39 i0 (.slice none 0 0) 24 Tryz.underlying29 hi hz0 hz1 hz2 rfl idV (v 7) (v 10) (vs.take n ++ [(Value.slice Al (bitsOf k).length cal)]) (vs.drop n) (by go_simp) hT1 (by go_simp) ?_ (fun y hy=>HONE.out y (List.mem_of_mem_drop hy)) (by rw [List.length_append,List.length_take,List.length_singleton]; omega) (by decide) hsz (fun v' w' hown hg=>hK _ _ ⟨hown,hT2.trans (below_grown hT1 hg (Nat.le_refl _) hsz)⟩)
              rw [q10]
              exact ⟨_,_,by rw [l2],fun j hj=>⟨g0,0 + n,by rw [if_neg (by omega)],by rw [List.getElem_drop,Nat.add_assoc]; exact hc2.out (n + j) (by omega)⟩⟩
             case g12 =>
              intro v w1 hx (q0:EmptyRow w1 (v 0) w4.heap.size 39) (q1:v 1 = .slice (some ⟨g0,0,none⟩) vs.length cc) (q2:v 2 = .int .i64 n) (q3:v 3 = .slice (some ⟨g0,0,none⟩) n cc) (q4:(fun v w'=>Own1 w' w4.heap.size 39 idV (v 4) (vs.take n)) v w1) (q5:v 5 = (Value.slice Al (bitsOf k).length cal)) (q6:OneRow w1 (v 6) (Value.slice Al (bitsOf k).length cal)) (q8:v 8 = .slice (some ⟨g0,0,none⟩) vs.length cc) (q9:v 9 = .int .i64 n) (q10:v 10 = .slice (if cc = n then some ⟨g0,0,none⟩ else some ⟨g0,0 + n,none⟩) (vs.length - n) (cc - n))
              intro wl hT
              replace hT:(fun v w1 w'=>Own1 w' w4.heap.size 39 idV (v 11) (vs.take n ++ [(Value.slice Al (bitsOf k).length cal)] ++ vs.drop n) ∧ Below w4.heap.size w1 w') v w1 wl:=hT
              intro bb hbb
              subst hbb
              intro K hK
              go_simp
              exact hK _ _ ⟨rfl,hT⟩
             case post =>
              intro v w1 hx (q0:EmptyRow w1 (v 0) w4.heap.size 39) (q1:v 1 = .slice (some ⟨g0,0,none⟩) vs.length cc) (q2:v 2 = .int .i64 n) (q3:v 3 = .slice (some ⟨g0,0,none⟩) n cc) (q4:(fun v w'=>Own1 w' w4.heap.size 39 idV (v 4) (vs.take n)) v w1) (q5:v 5 = (Value.slice Al (bitsOf k).length cal)) (q6:OneRow w1 (v 6) (Value.slice Al (bitsOf k).length cal)) (q8:v 8 = .slice (some ⟨g0,0,none⟩) vs.length cc) (q9:v 9 = .int .i64 n) (q10:v 10 = .slice (if cc = n then some ⟨g0,0,none⟩ else some ⟨g0,0 + n,none⟩) (vs.length - n) (cc - n))
              intro w2 hE
              replace hE:(fun v w1 w'=>v 12 = v 11 ∧ Own1 w' w4.heap.size 39 idV (v 11) (vs.take n ++ [(Value.slice Al (bitsOf k).length cal)] ++ vs.drop n) ∧ Below w4.heap.size w1 w') v w1 w2:=hE
              simp only [Flow.acts,Act.put]
              go_simp
              obtain ⟨_,e2,e3⟩:=hE
              have hx9:=below_ext hx e3
              have hrd9:=Reads.insert (HRD.out.ext (hxi.trans hx9)) (HLV.out.ext (hxi.trans hx9)) (show n ≤ (setsTo t p k).length by have:=HRD.out.1; omega)
              have hown9:=e2.weaken (show W.heap.size ≤ w4.heap.size from Nat.le_trans hx'.size hxi.size)
              have hst9:setsTo t p (k + 1) = (setsTo t p k).take n ++ [bitsOf k] ++ (setsTo t p k).drop n:=by rw [HST.out,HM.out,if_pos rfl,HZ.out]; rfl
              have HST9:=Lib.hid hst9
              have HR9:=Lib.hid hrd9
              have hxz:=(hx'.trans hxi).trans hx9
              clear hst9 hrd9 q0 q4 q6 hx e3 hx9
              go_wp2
              all_goals
               go_roundw
               case rel=>exact ⟨k + 1,vs.take n ++ [(Value.slice Al (bitsOf k).length cal)] ++ vs.drop n,by omega,by go_num,hown9,by rw [HST9.out]; exact HR9.out,hxz⟩
               case measure=>simp [intOf]; omega
  · have e:t.sets p = setsTo t p k:=by rw [show k = pow2 t.size from by omega]; rfl
    have HE:=Lib.hid e; clear e
    have hlen:=setsTo_len t p k
    go_wp2
    go_ret
    exact ⟨_,rfl,by rw [HE.out]; exact hown.intss hrd (by omega),hw.trans hx⟩
end Go.Proofs
