/- Contract of the law's own function: awake. -/
import Derived.Test.YtmaejccjimkbiaaGreatDoorBc44
set_option linter.unusedVariables false
set_option linter.unusedSimpArgs false
set_option linter.constructorNameAsVariable false
namespace Go.Proofs
open Go.RowKit Go.Tw Go.Flow
attribute [local go_sem ↓] run_neq_rat run_eql_ratI run_eql_r2 run_build_r2
set_option maxRecDepth 100000 in
set_option maxHeartbeats 16000000 in
theorem awake_any (w:World) (hT:Tab w) :
    Calls Tryz.prog 11 #[] w fun e w'=>e = .returned (.bool true) ∧ Ext w w':=by
 have HXA:=Lib.hid (Ext.refl w)
 have HTAB:=Lib.hid hT
 clear hT
 go_enter Tryz.func11,Tryz.ntmps11
 go_wp2_with fail
 refine (sample_any _).mono ?_
 rintro e w1 ⟨u1,rfl,ht,hx⟩
 have hxx:Ext w w1:=hx
 replace HXA:=Lib.hid (HXA.out.trans hxx)
 replace HTAB:=Lib.hid (HTAB.out.ext hxx)
 clear hx hxx
 have HU:=Lib.hid ht
 clear ht
 go_wp2_with fail
 change Calls _ _ _ (w1.alloc (.cells #[.int .i64 0,.int .i64 1] 3)) _
 have k0:=Blk.made w1 3 #[.int .i64 0,.int .i64 1]
 have x0:=Ext.box w1 (.cells #[.int .i64 0,.int .i64 1] 3)
 have es0:(w1.alloc (.cells #[.int .i64 0,.int .i64 1] 3)).heap.size = w1.heap.size + 1:=by simp
 obtain ⟨X0,hX0⟩:∃ X,w1.alloc (.cells #[.int .i64 0,.int .i64 1] 3) = X:=⟨_,rfl⟩
 rw [hX0] at k0 x0 es0 ⊢
 clear hX0
 have e0:X0.heap.size = w1.heap.size + 1:=by omega
 have HXW:Hid (Ext w1 X0):=by exact (x0:Ext w1 X0)
 have eW:X0.heap.size = w1.heap.size + 1:=e0
 clear x0 es0 e0
 obtain ⟨W,hWW⟩:∃ W,X0 = W:=⟨_,rfl⟩
 rw [hWW] at HXW eW ⊢ k0
 clear hWW
 refine (s_fails1 _ _ _ (HU.out.ext HXW.out) (ints_at (l:=[0,1]) k0 (by simp))).mono ?_
 rintro e w2 ⟨rfl,hx⟩
 have hxx:Ext w1 w2:=HXW.out.trans hx
 replace HXA:=Lib.hid (HXA.out.trans hxx)
 replace HTAB:=Lib.hid (HTAB.out.ext hxx)
 clear hx hxx HXW eW k0
 clear HU
 go_wp2_with fail
 refine (sample_any _).mono ?_
 rintro e w3 ⟨u2,rfl,ht,hx⟩
 have hxx:Ext w2 w3:=hx
 replace HXA:=Lib.hid (HXA.out.trans hxx)
 replace HTAB:=Lib.hid (HTAB.out.ext hxx)
 clear hx hxx
 have HU:=Lib.hid ht
 clear ht
 go_wp2_with fail
 change Calls _ _ _ (w3.alloc (.cells #[.int .i64 0] 3)) _
 have k0:=Blk.made w3 3 #[.int .i64 0]
 have x0:=Ext.box w3 (.cells #[.int .i64 0] 3)
 have es0:(w3.alloc (.cells #[.int .i64 0] 3)).heap.size = w3.heap.size + 1:=by simp
 obtain ⟨X0,hX0⟩:∃ X,w3.alloc (.cells #[.int .i64 0] 3) = X:=⟨_,rfl⟩
 rw [hX0] at k0 x0 es0 ⊢
 clear hX0
 have e0:X0.heap.size = w3.heap.size + 1:=by omega
 have HXW:Hid (Ext w3 X0):=by exact (x0:Ext w3 X0)
 have eW:X0.heap.size = w3.heap.size + 1:=e0
 clear x0 es0 e0
 obtain ⟨W,hWW⟩:∃ W,X0 = W:=⟨_,rfl⟩
 rw [hWW] at HXW eW ⊢ k0
 clear hWW
 refine (s_fails2 _ _ _ (HU.out.ext HXW.out) (ints_at (l:=[0]) k0 (by simp))).mono ?_
 rintro e w4 ⟨rfl,hx⟩
 have hxx:Ext w3 w4:=HXW.out.trans hx
 replace HXA:=Lib.hid (HXA.out.trans hxx)
 replace HTAB:=Lib.hid (HTAB.out.ext hxx)
 clear hx hxx HXW eW k0
 clear HU
 go_wp2_with fail
 refine (sample_any _).mono ?_
 rintro e w5 ⟨u3,rfl,ht,hx⟩
 have hxx:Ext w4 w5:=hx
 replace HXA:=Lib.hid (HXA.out.trans hxx)
 replace HTAB:=Lib.hid (HTAB.out.ext hxx)
 clear hx hxx
 have HU:=Lib.hid ht
 clear ht
 go_wp2_with fail
 change Calls _ _ _ (w5.alloc (.cells #[.int .i64 3] 3)) _
 have k0:=Blk.made w5 3 #[.int .i64 3]
 have x0:=Ext.box w5 (.cells #[.int .i64 3] 3)
 have es0:(w5.alloc (.cells #[.int .i64 3] 3)).heap.size = w5.heap.size + 1:=by simp
 obtain ⟨X0,hX0⟩:∃ X,w5.alloc (.cells #[.int .i64 3] 3) = X:=⟨_,rfl⟩
 rw [hX0] at k0 x0 es0 ⊢
 clear hX0
 have e0:X0.heap.size = w5.heap.size + 1:=by omega
 have HXW:Hid (Ext w5 X0):=by exact (x0:Ext w5 X0)
 have eW:X0.heap.size = w5.heap.size + 1:=e0
 clear x0 es0 e0
 obtain ⟨W,hWW⟩:∃ W,X0 = W:=⟨_,rfl⟩
 rw [hWW] at HXW eW ⊢ k0
 clear hWW
 refine (s_states _ _ _ (HU.out.ext HXW.out) (ints_at (l:=[3]) k0 (by simp))).mono ?_
 rintro e w6 ⟨xs,rfl,hr,hx⟩
 have hxx:Ext w5 w6:=HXW.out.trans hx
 replace HXA:=Lib.hid (HXA.out.trans hxx)
 replace HTAB:=Lib.hid (HTAB.out.ext hxx)
 have FS:=Lib.hid (hr)
 clear hx hxx HXW eW k0
 clear HU
 clear hr
 go_wp2_with fail
 refine (sample_any _).mono ?_
 rintro e w7 ⟨u4,rfl,ht,hx⟩
 have hxx:Ext w6 w7:=hx
 replace HXA:=Lib.hid (HXA.out.trans hxx)
 replace HTAB:=Lib.hid (HTAB.out.ext hxx)
 replace FS:=Lib.hid (FS.out.ext hxx)
 clear hx hxx
 have HU:=Lib.hid ht
 clear ht
 go_wp2_with fail
 refine (s_cuts _ _ HU.out HTAB.out).mono ?_
 rintro e w8 ⟨xc,rfl,hr,hx⟩
 have hxx:Ext w7 w8:=hx
 replace HXA:=Lib.hid (HXA.out.trans hxx)
 replace HTAB:=Lib.hid (HTAB.out.ext hxx)
 replace FS:=Lib.hid (FS.out.ext hxx)
 have FC:=Lib.hid (hr)
 clear hx hxx
 clear HU
 clear hr
 go_wp2_with fail
 refine (sample_any _).mono ?_
 rintro e w9 ⟨u5,rfl,ht,hx⟩
 have hxx:Ext w8 w9:=hx
 replace HXA:=Lib.hid (HXA.out.trans hxx)
 replace HTAB:=Lib.hid (HTAB.out.ext hxx)
 replace FS:=Lib.hid (FS.out.ext hxx)
 replace FC:=Lib.hid (FC.out.ext hxx)
 clear hx hxx
 have HU:=Lib.hid ht
 clear ht
 go_wp2_with fail
 refine (s_paths _ _ HU.out HTAB.out).mono ?_
 rintro e w10 ⟨xp,rfl,hr,hx⟩
 have hxx:Ext w9 w10:=hx
 replace HXA:=Lib.hid (HXA.out.trans hxx)
 replace HTAB:=Lib.hid (HTAB.out.ext hxx)
 replace FS:=Lib.hid (FS.out.ext hxx)
 replace FC:=Lib.hid (FC.out.ext hxx)
 have FP:=Lib.hid (hr)
 clear hx hxx
 clear HU
 clear hr
 go_wp2_with fail
 refine (sample_any _).mono ?_
 rintro e w11 ⟨u6,rfl,ht,hx⟩
 have hxx:Ext w10 w11:=hx
 replace HXA:=Lib.hid (HXA.out.trans hxx)
 replace HTAB:=Lib.hid (HTAB.out.ext hxx)
 replace FS:=Lib.hid (FS.out.ext hxx)
 replace FC:=Lib.hid (FC.out.ext hxx)
 replace FP:=Lib.hid (FP.out.ext hxx)
 clear hx hxx
 have HU:=Lib.hid ht
 clear ht
 go_wp2_with fail
 refine (s_single _ _ HU.out).mono ?_
 rintro e w12 ⟨xl,rfl,hr,hx⟩
 have hxx:Ext w11 w12:=hx
 replace HXA:=Lib.hid (HXA.out.trans hxx)
 replace HTAB:=Lib.hid (HTAB.out.ext hxx)
 replace FS:=Lib.hid (FS.out.ext hxx)
 replace FC:=Lib.hid (FC.out.ext hxx)
 replace FP:=Lib.hid (FP.out.ext hxx)
 have FL:=Lib.hid (hr)
 clear hx hxx
 clear HU
 clear hr
 go_wp2_with fail
 refine (sample_any _).mono ?_
 rintro e w13 ⟨u7,rfl,ht,hx⟩
 have hxx:Ext w12 w13:=hx
 replace HXA:=Lib.hid (HXA.out.trans hxx)
 replace HTAB:=Lib.hid (HTAB.out.ext hxx)
 replace FS:=Lib.hid (FS.out.ext hxx)
 replace FC:=Lib.hid (FC.out.ext hxx)
 replace FP:=Lib.hid (FP.out.ext hxx)
 replace FL:=Lib.hid (FL.out.ext hxx)
 clear hx hxx
 have HU:=Lib.hid ht
 clear ht
 go_wp2_with fail
 refine (s_chance _ _ HU.out).mono ?_
 rintro e w14 ⟨rfl,hx⟩
 have hxx:Ext w13 w14:=hx
 replace HXA:=Lib.hid (HXA.out.trans hxx)
 replace HTAB:=Lib.hid (HTAB.out.ext hxx)
 replace FS:=Lib.hid (FS.out.ext hxx)
 replace FC:=Lib.hid (FC.out.ext hxx)
 replace FP:=Lib.hid (FP.out.ext hxx)
 replace FL:=Lib.hid (FL.out.ext hxx)
 clear hx hxx
 clear HU
 go_wp2_with fail
 change Calls _ _ _ (w14.alloc (.cells #[.int .i64 151,.int .i64 256] 59)) _
 have k0:=Blk.made w14 59 #[.int .i64 151,.int .i64 256]
 have x0:=Ext.box w14 (.cells #[.int .i64 151,.int .i64 256] 59)
 have es0:(w14.alloc (.cells #[.int .i64 151,.int .i64 256] 59)).heap.size = w14.heap.size + 1:=by simp
 obtain ⟨X0,hX0⟩:∃ X,w14.alloc (.cells #[.int .i64 151,.int .i64 256] 59) = X:=⟨_,rfl⟩
 rw [hX0] at k0 x0 es0 ⊢
 clear hX0
 have e0:X0.heap.size = w14.heap.size + 1:=by omega
 have HXW:Hid (Ext w14 X0):=by exact (x0:Ext w14 X0)
 have eW:X0.heap.size = w14.heap.size + 1:=e0
 clear x0 es0 e0
 obtain ⟨W,hWW⟩:∃ W,X0 = W:=⟨_,rfl⟩
 rw [hWW] at HXW eW ⊢ k0
 clear hWW
 refine (sample_any _).mono ?_
 rintro e w15 ⟨u8,rfl,ht,hx⟩
 have hxx:Ext w14 w15:=HXW.out.trans hx
 replace HXA:=Lib.hid (HXA.out.trans hxx)
 replace HTAB:=Lib.hid (HTAB.out.ext hxx)
 replace FS:=Lib.hid (FS.out.ext hxx)
 replace FC:=Lib.hid (FC.out.ext hxx)
 replace FP:=Lib.hid (FP.out.ext hxx)
 replace FL:=Lib.hid (FL.out.ext hxx)
 have B13:=Lib.hid (k0.ext hx)
 clear hx hxx HXW eW k0
 have HU:=Lib.hid ht
 clear ht
 go_wp2_with fail
 change Calls _ _ _ (w15.alloc (.cells #[.int .i64 2] 3)) _
 have k0:=Blk.made w15 3 #[.int .i64 2]
 have x0:=Ext.box w15 (.cells #[.int .i64 2] 3)
 have es0:(w15.alloc (.cells #[.int .i64 2] 3)).heap.size = w15.heap.size + 1:=by simp
 obtain ⟨X0,hX0⟩:∃ X,w15.alloc (.cells #[.int .i64 2] 3) = X:=⟨_,rfl⟩
 rw [hX0] at k0 x0 es0 ⊢
 clear hX0
 have e0:X0.heap.size = w15.heap.size + 1:=by omega
 have HXW:Hid (Ext w15 X0):=by exact (x0:Ext w15 X0)
 have eW:X0.heap.size = w15.heap.size + 1:=e0
 clear x0 es0 e0
 obtain ⟨W,hWW⟩:∃ W,X0 = W:=⟨_,rfl⟩
 rw [hWW] at HXW eW ⊢ k0
 clear hWW
 refine (s_given1 _ _ _ _ (HU.out.ext HXW.out) (ints_at (l:=[2]) k0 (by simp)) (nil_ints _)).mono ?_
 rintro e w16 ⟨rfl,hx⟩
 have hxx:Ext w15 w16:=HXW.out.trans hx
 replace HXA:=Lib.hid (HXA.out.trans hxx)
 replace HTAB:=Lib.hid (HTAB.out.ext hxx)
 replace FS:=Lib.hid (FS.out.ext hxx)
 replace FC:=Lib.hid (FC.out.ext hxx)
 replace FP:=Lib.hid (FP.out.ext hxx)
 replace FL:=Lib.hid (FL.out.ext hxx)
 replace B13:=Lib.hid (B13.out.ext hxx)
 clear hx hxx HXW eW k0
 clear HU
 go_wp2_with fail
 change Calls _ _ _ (w16.alloc (.cells #[.int .i64 1,.int .i64 1] 59)) _
 have k0:=Blk.made w16 59 #[.int .i64 1,.int .i64 1]
 have x0:=Ext.box w16 (.cells #[.int .i64 1,.int .i64 1] 59)
 have es0:(w16.alloc (.cells #[.int .i64 1,.int .i64 1] 59)).heap.size = w16.heap.size + 1:=by simp
 obtain ⟨X0,hX0⟩:∃ X,w16.alloc (.cells #[.int .i64 1,.int .i64 1] 59) = X:=⟨_,rfl⟩
 rw [hX0] at k0 x0 es0 ⊢
 clear hX0
 have e0:X0.heap.size = w16.heap.size + 1:=by omega
 have HXW:Hid (Ext w16 X0):=by exact (x0:Ext w16 X0)
 have eW:X0.heap.size = w16.heap.size + 1:=e0
 clear x0 es0 e0
 obtain ⟨W,hWW⟩:∃ W,X0 = W:=⟨_,rfl⟩
 rw [hWW] at HXW eW ⊢ k0
 clear hWW
 refine (sample_any _).mono ?_
 rintro e w17 ⟨u9,rfl,ht,hx⟩
 have hxx:Ext w16 w17:=HXW.out.trans hx
 replace HXA:=Lib.hid (HXA.out.trans hxx)
 replace HTAB:=Lib.hid (HTAB.out.ext hxx)
 replace FS:=Lib.hid (FS.out.ext hxx)
 replace FC:=Lib.hid (FC.out.ext hxx)
 replace FP:=Lib.hid (FP.out.ext hxx)
 replace FL:=Lib.hid (FL.out.ext hxx)
 replace B13:=Lib.hid (B13.out.ext hxx)
 have B15:=Lib.hid (k0.ext hx)
 clear hx hxx HXW eW k0
 have HU:=Lib.hid ht
 clear ht
 go_wp2_with fail
 change Calls _ _ _ (w17.alloc (.cells #[.int .i64 2] 3)) _
 have k0:=Blk.made w17 3 #[.int .i64 2]
 have x0:=Ext.box w17 (.cells #[.int .i64 2] 3)
 have es0:(w17.alloc (.cells #[.int .i64 2] 3)).heap.size = w17.heap.size + 1:=by simp
 obtain ⟨X0,hX0⟩:∃ X,w17.alloc (.cells #[.int .i64 2] 3) = X:=⟨_,rfl⟩
 rw [hX0] at k0 x0 es0 ⊢
 clear hX0
 have e0:X0.heap.size = w17.heap.size + 1:=by omega
 have HXW:Hid (Ext w17 X0):=by exact (x0:Ext w17 X0)
 have eW:X0.heap.size = w17.heap.size + 1:=e0
 clear x0 es0 e0
 obtain ⟨W,hWW⟩:∃ W,X0 = W:=⟨_,rfl⟩
 rw [hWW] at HXW eW ⊢ k0
 clear hWW
 refine (s_given2 _ _ _ _ (HU.out.ext HXW.out) (nil_ints _) (ints_at (l:=[2]) k0 (by simp))).mono ?_
 rintro e w18 ⟨rfl,hx⟩
 have hxx:Ext w17 w18:=HXW.out.trans hx
 replace HXA:=Lib.hid (HXA.out.trans hxx)
 replace HTAB:=Lib.hid (HTAB.out.ext hxx)
 replace FS:=Lib.hid (FS.out.ext hxx)
 replace FC:=Lib.hid (FC.out.ext hxx)
 replace FP:=Lib.hid (FP.out.ext hxx)
 replace FL:=Lib.hid (FL.out.ext hxx)
 replace B13:=Lib.hid (B13.out.ext hxx)
 replace B15:=Lib.hid (B15.out.ext hxx)
 clear hx hxx HXW eW k0
 clear HU
 go_wp2_with fail
 change Calls _ _ _ (w18.alloc (.cells #[.int .i64 23,.int .i64 128] 59)) _
 have k0:=Blk.made w18 59 #[.int .i64 23,.int .i64 128]
 have x0:=Ext.box w18 (.cells #[.int .i64 23,.int .i64 128] 59)
 have es0:(w18.alloc (.cells #[.int .i64 23,.int .i64 128] 59)).heap.size = w18.heap.size + 1:=by simp
 obtain ⟨X0,hX0⟩:∃ X,w18.alloc (.cells #[.int .i64 23,.int .i64 128] 59) = X:=⟨_,rfl⟩
 rw [hX0] at k0 x0 es0 ⊢
 clear hX0
 have e0:X0.heap.size = w18.heap.size + 1:=by omega
 have HXW:Hid (Ext w18 X0):=by exact (x0:Ext w18 X0)
 have eW:X0.heap.size = w18.heap.size + 1:=e0
 clear x0 es0 e0
 obtain ⟨W,hWW⟩:∃ W,X0 = W:=⟨_,rfl⟩
 rw [hWW] at HXW eW ⊢ k0
 clear hWW
 refine (sample_any _).mono ?_
 rintro e w19 ⟨u10,rfl,ht,hx⟩
 have hxx:Ext w18 w19:=HXW.out.trans hx
 replace HXA:=Lib.hid (HXA.out.trans hxx)
 replace HTAB:=Lib.hid (HTAB.out.ext hxx)
 replace FS:=Lib.hid (FS.out.ext hxx)
 replace FC:=Lib.hid (FC.out.ext hxx)
 replace FP:=Lib.hid (FP.out.ext hxx)
 replace FL:=Lib.hid (FL.out.ext hxx)
 replace B13:=Lib.hid (B13.out.ext hxx)
 replace B15:=Lib.hid (B15.out.ext hxx)
 have B17:=Lib.hid (k0.ext hx)
 clear hx hxx HXW eW k0
 have HU:=Lib.hid ht
 clear ht
 go_wp2_with fail
 refine (s_imp _ _ HU.out).mono ?_
 rintro e w20 ⟨rfl,hx⟩
 have hxx:Ext w19 w20:=hx
 replace HXA:=Lib.hid (HXA.out.trans hxx)
 replace HTAB:=Lib.hid (HTAB.out.ext hxx)
 replace FS:=Lib.hid (FS.out.ext hxx)
 replace FC:=Lib.hid (FC.out.ext hxx)
 replace FP:=Lib.hid (FP.out.ext hxx)
 replace FL:=Lib.hid (FL.out.ext hxx)
 replace B13:=Lib.hid (B13.out.ext hxx)
 replace B15:=Lib.hid (B15.out.ext hxx)
 replace B17:=Lib.hid (B17.out.ext hxx)
 clear hx hxx
 clear HU
 go_wp2_with fail
 change Calls _ _ _ (w20.alloc (.cells #[.int .i64 105,.int .i64 128] 59)) _
 have k0:=Blk.made w20 59 #[.int .i64 105,.int .i64 128]
 have x0:=Ext.box w20 (.cells #[.int .i64 105,.int .i64 128] 59)
 have es0:(w20.alloc (.cells #[.int .i64 105,.int .i64 128] 59)).heap.size = w20.heap.size + 1:=by simp
 obtain ⟨X0,hX0⟩:∃ X,w20.alloc (.cells #[.int .i64 105,.int .i64 128] 59) = X:=⟨_,rfl⟩
 rw [hX0] at k0 x0 es0 ⊢
 clear hX0
 have e0:X0.heap.size = w20.heap.size + 1:=by omega
 have HXW:Hid (Ext w20 X0):=by exact (x0:Ext w20 X0)
 have eW:X0.heap.size = w20.heap.size + 1:=e0
 clear x0 es0 e0
 obtain ⟨W,hWW⟩:∃ W,X0 = W:=⟨_,rfl⟩
 rw [hWW] at HXW eW ⊢ k0
 clear hWW
 refine (sample_any _).mono ?_
 rintro e w21 ⟨u11,rfl,ht,hx⟩
 have hxx:Ext w20 w21:=HXW.out.trans hx
 replace HXA:=Lib.hid (HXA.out.trans hxx)
 replace HTAB:=Lib.hid (HTAB.out.ext hxx)
 replace FS:=Lib.hid (FS.out.ext hxx)
 replace FC:=Lib.hid (FC.out.ext hxx)
 replace FP:=Lib.hid (FP.out.ext hxx)
 replace FL:=Lib.hid (FL.out.ext hxx)
 replace B13:=Lib.hid (B13.out.ext hxx)
 replace B15:=Lib.hid (B15.out.ext hxx)
 replace B17:=Lib.hid (B17.out.ext hxx)
 have B19:=Lib.hid (k0.ext hx)
 clear hx hxx HXW eW k0
 have HU:=Lib.hid ht
 clear ht
 go_wp2_with fail
 refine (s_share _ _ HU.out).mono ?_
 rintro e w22 ⟨rfl,hx⟩
 have hxx:Ext w21 w22:=hx
 replace HXA:=Lib.hid (HXA.out.trans hxx)
 replace HTAB:=Lib.hid (HTAB.out.ext hxx)
 replace FS:=Lib.hid (FS.out.ext hxx)
 replace FC:=Lib.hid (FC.out.ext hxx)
 replace FP:=Lib.hid (FP.out.ext hxx)
 replace FL:=Lib.hid (FL.out.ext hxx)
 replace B13:=Lib.hid (B13.out.ext hxx)
 replace B15:=Lib.hid (B15.out.ext hxx)
 replace B17:=Lib.hid (B17.out.ext hxx)
 replace B19:=Lib.hid (B19.out.ext hxx)
 clear hx hxx
 clear HU
 go_wp2_with fail
 change Calls _ _ _ (w22.alloc (.cells #[.int .i64 128,.int .i64 151] 59)) _
 have k0:=Blk.made w22 59 #[.int .i64 128,.int .i64 151]
 have x0:=Ext.box w22 (.cells #[.int .i64 128,.int .i64 151] 59)
 have es0:(w22.alloc (.cells #[.int .i64 128,.int .i64 151] 59)).heap.size = w22.heap.size + 1:=by simp
 obtain ⟨X0,hX0⟩:∃ X,w22.alloc (.cells #[.int .i64 128,.int .i64 151] 59) = X:=⟨_,rfl⟩
 rw [hX0] at k0 x0 es0 ⊢
 clear hX0
 have e0:X0.heap.size = w22.heap.size + 1:=by omega
 have HXW:Hid (Ext w22 X0):=by exact (x0:Ext w22 X0)
 have eW:X0.heap.size = w22.heap.size + 1:=e0
 clear x0 es0 e0
 obtain ⟨W,hWW⟩:∃ W,X0 = W:=⟨_,rfl⟩
 rw [hWW] at HXW eW ⊢ k0
 clear hWW
 refine (sample_any _).mono ?_
 rintro e w23 ⟨u12,rfl,ht,hx⟩
 have hxx:Ext w22 w23:=HXW.out.trans hx
 replace HXA:=Lib.hid (HXA.out.trans hxx)
 replace HTAB:=Lib.hid (HTAB.out.ext hxx)
 replace FS:=Lib.hid (FS.out.ext hxx)
 replace FC:=Lib.hid (FC.out.ext hxx)
 replace FP:=Lib.hid (FP.out.ext hxx)
 replace FL:=Lib.hid (FL.out.ext hxx)
 replace B13:=Lib.hid (B13.out.ext hxx)
 replace B15:=Lib.hid (B15.out.ext hxx)
 replace B17:=Lib.hid (B17.out.ext hxx)
 replace B19:=Lib.hid (B19.out.ext hxx)
 have B21:=Lib.hid (k0.ext hx)
 clear hx hxx HXW eW k0
 have HU:=Lib.hid ht
 clear ht
 go_wp2_with fail
 refine (s_crit _ _ HU.out).mono ?_
 rintro e w24 ⟨rfl,hx⟩
 have hxx:Ext w23 w24:=hx
 replace HXA:=Lib.hid (HXA.out.trans hxx)
 replace HTAB:=Lib.hid (HTAB.out.ext hxx)
 replace FS:=Lib.hid (FS.out.ext hxx)
 replace FC:=Lib.hid (FC.out.ext hxx)
 replace FP:=Lib.hid (FP.out.ext hxx)
 replace FL:=Lib.hid (FL.out.ext hxx)
 replace B13:=Lib.hid (B13.out.ext hxx)
 replace B15:=Lib.hid (B15.out.ext hxx)
 replace B17:=Lib.hid (B17.out.ext hxx)
 replace B19:=Lib.hid (B19.out.ext hxx)
 replace B21:=Lib.hid (B21.out.ext hxx)
 clear hx hxx
 clear HU
 go_wp2_with fail
 refine (sample_any _).mono ?_
 rintro e w25 ⟨u13,rfl,ht,hx⟩
 have hxx:Ext w24 w25:=hx
 replace HXA:=Lib.hid (HXA.out.trans hxx)
 replace HTAB:=Lib.hid (HTAB.out.ext hxx)
 replace FS:=Lib.hid (FS.out.ext hxx)
 replace FC:=Lib.hid (FC.out.ext hxx)
 replace FP:=Lib.hid (FP.out.ext hxx)
 replace FL:=Lib.hid (FL.out.ext hxx)
 replace B13:=Lib.hid (B13.out.ext hxx)
 replace B15:=Lib.hid (B15.out.ext hxx)
 replace B17:=Lib.hid (B17.out.ext hxx)
 replace B19:=Lib.hid (B19.out.ext hxx)
 replace B21:=Lib.hid (B21.out.ext hxx)
 clear hx hxx
 have HU:=Lib.hid ht
 clear ht
 go_wp2_with fail
 refine (s_bound _ _ HU.out HTAB.out).mono ?_
 rintro e w26 ⟨rfl,hx⟩
 have hxx:Ext w25 w26:=hx
 replace HXA:=Lib.hid (HXA.out.trans hxx)
 replace HTAB:=Lib.hid (HTAB.out.ext hxx)
 replace FS:=Lib.hid (FS.out.ext hxx)
 replace FC:=Lib.hid (FC.out.ext hxx)
 replace FP:=Lib.hid (FP.out.ext hxx)
 replace FL:=Lib.hid (FL.out.ext hxx)
 replace B13:=Lib.hid (B13.out.ext hxx)
 replace B15:=Lib.hid (B15.out.ext hxx)
 replace B17:=Lib.hid (B17.out.ext hxx)
 replace B19:=Lib.hid (B19.out.ext hxx)
 replace B21:=Lib.hid (B21.out.ext hxx)
 clear hx hxx
 clear HU
 go_wp2_with fail
 change Calls _ _ _ ((w26.alloc (.cells #[.int .i64 11,.int .i64 16] 59)).alloc (.cells #[.bool true,.bool true,.bool false,.bool true,.bool true] 4)) _
 have k0:=Blk.made w26 59 #[.int .i64 11,.int .i64 16]
 have x0:=Ext.box w26 (.cells #[.int .i64 11,.int .i64 16] 59)
 have es0:(w26.alloc (.cells #[.int .i64 11,.int .i64 16] 59)).heap.size = w26.heap.size + 1:=by simp
 obtain ⟨X0,hX0⟩:∃ X,w26.alloc (.cells #[.int .i64 11,.int .i64 16] 59) = X:=⟨_,rfl⟩
 rw [hX0] at k0 x0 es0 ⊢
 clear hX0
 have k1:=Blk.made X0 4 #[.bool true,.bool true,.bool false,.bool true,.bool true]
 have x1:=Ext.box X0 (.cells #[.bool true,.bool true,.bool false,.bool true,.bool true] 4)
 have es1:(X0.alloc (.cells #[.bool true,.bool true,.bool false,.bool true,.bool true] 4)).heap.size = X0.heap.size + 1:=by simp
 obtain ⟨X1,hX1⟩:∃ X,X0.alloc (.cells #[.bool true,.bool true,.bool false,.bool true,.bool true] 4) = X:=⟨_,rfl⟩
 rw [hX1] at k1 x1 es1 ⊢
 clear hX1
 replace k0:=k0.ext x1
 have e0:X0.heap.size = w26.heap.size + 1:=by omega
 have e1:X1.heap.size = w26.heap.size + 1 + 1:=by omega
 rw [e0] at k1
 have HXW:Hid (Ext w26 X1):=by exact (Ext.trans (x0) x1:Ext w26 X1)
 have eW:X1.heap.size = w26.heap.size + 1 + 1:=e1
 clear x0 es0 e0 x1 es1 e1
 obtain ⟨W,hWW⟩:∃ W,X1 = W:=⟨_,rfl⟩
 rw [hWW] at HXW eW ⊢ k0 k1
 clear hWW
 refine (s_sameB _ _ _ (FS.out.ext HXW.out) (bools_at (l:=[true,true,false,true,true]) k1 (by simp))).mono ?_
 rintro e w27 ⟨rfl,hx⟩
 have hxx:Ext w26 w27:=HXW.out.trans hx
 replace HXA:=Lib.hid (HXA.out.trans hxx)
 replace HTAB:=Lib.hid (HTAB.out.ext hxx)
 clear FS
 replace FC:=Lib.hid (FC.out.ext hxx)
 replace FP:=Lib.hid (FP.out.ext hxx)
 replace FL:=Lib.hid (FL.out.ext hxx)
 replace B13:=Lib.hid (B13.out.ext hxx)
 replace B15:=Lib.hid (B15.out.ext hxx)
 replace B17:=Lib.hid (B17.out.ext hxx)
 replace B19:=Lib.hid (B19.out.ext hxx)
 replace B21:=Lib.hid (B21.out.ext hxx)
 have B25:=Lib.hid (k0.ext hx)
 clear hx hxx HXW eW k0 k1
 go_wp2_with fail
 change Calls _ _ _ ((((w27.alloc (.cells #[.int .i64 2] 3)).alloc (.cells #[.int .i64 3] 3)).alloc (.cells #[.int .i64 0,.int .i64 1] 3)).alloc (.cells #[.slice (some ⟨w27.heap.size,0,none⟩) 1 1,.slice (some ⟨w27.heap.size + 1,0,none⟩) 1 1,.slice (some ⟨w27.heap.size + 1 + 1,0,none⟩) 2 2] 39)) _
 have k0:=Blk.made w27 3 #[.int .i64 2]
 have x0:=Ext.box w27 (.cells #[.int .i64 2] 3)
 have es0:(w27.alloc (.cells #[.int .i64 2] 3)).heap.size = w27.heap.size + 1:=by simp
 obtain ⟨X0,hX0⟩:∃ X,w27.alloc (.cells #[.int .i64 2] 3) = X:=⟨_,rfl⟩
 rw [hX0] at k0 x0 es0 ⊢
 clear hX0
 have k1:=Blk.made X0 3 #[.int .i64 3]
 have x1:=Ext.box X0 (.cells #[.int .i64 3] 3)
 have es1:(X0.alloc (.cells #[.int .i64 3] 3)).heap.size = X0.heap.size + 1:=by simp
 obtain ⟨X1,hX1⟩:∃ X,X0.alloc (.cells #[.int .i64 3] 3) = X:=⟨_,rfl⟩
 rw [hX1] at k1 x1 es1 ⊢
 clear hX1
 have k2:=Blk.made X1 3 #[.int .i64 0,.int .i64 1]
 have x2:=Ext.box X1 (.cells #[.int .i64 0,.int .i64 1] 3)
 have es2:(X1.alloc (.cells #[.int .i64 0,.int .i64 1] 3)).heap.size = X1.heap.size + 1:=by simp
 obtain ⟨X2,hX2⟩:∃ X,X1.alloc (.cells #[.int .i64 0,.int .i64 1] 3) = X:=⟨_,rfl⟩
 rw [hX2] at k2 x2 es2 ⊢
 clear hX2
 have k3:=Blk.made X2 39 #[.slice (some ⟨w27.heap.size,0,none⟩) 1 1,.slice (some ⟨w27.heap.size + 1,0,none⟩) 1 1,.slice (some ⟨w27.heap.size + 1 + 1,0,none⟩) 2 2]
 have x3:=Ext.box X2 (.cells #[.slice (some ⟨w27.heap.size,0,none⟩) 1 1,.slice (some ⟨w27.heap.size + 1,0,none⟩) 1 1,.slice (some ⟨w27.heap.size + 1 + 1,0,none⟩) 2 2] 39)
 have es3:(X2.alloc (.cells #[.slice (some ⟨w27.heap.size,0,none⟩) 1 1,.slice (some ⟨w27.heap.size + 1,0,none⟩) 1 1,.slice (some ⟨w27.heap.size + 1 + 1,0,none⟩) 2 2] 39)).heap.size = X2.heap.size + 1:=by simp
 obtain ⟨X3,hX3⟩:∃ X,X2.alloc (.cells #[.slice (some ⟨w27.heap.size,0,none⟩) 1 1,.slice (some ⟨w27.heap.size + 1,0,none⟩) 1 1,.slice (some ⟨w27.heap.size + 1 + 1,0,none⟩) 2 2] 39) = X:=⟨_,rfl⟩
 rw [hX3] at k3 x3 es3 ⊢
 clear hX3
 replace k0:=((k0.ext x1).ext x2).ext x3
 replace k1:=(k1.ext x2).ext x3
 replace k2:=k2.ext x3
 have e0:X0.heap.size = w27.heap.size + 1:=by omega
 have e1:X1.heap.size = w27.heap.size + 1 + 1:=by omega
 have e2:X2.heap.size = w27.heap.size + 1 + 1 + 1:=by omega
 have e3:X3.heap.size = w27.heap.size + 1 + 1 + 1 + 1:=by omega
 rw [e0] at k1
 rw [e1] at k2
 rw [e2] at k3
 have HXW:Hid (Ext w27 X3):=by exact (Ext.trans (Ext.trans (Ext.trans (x0) x1) x2) x3:Ext w27 X3)
 have eW:X3.heap.size = w27.heap.size + 1 + 1 + 1 + 1:=e3
 clear x0 es0 e0 x1 es1 e1 x2 es2 e2 x3 es3 e3
 obtain ⟨W,hWW⟩:∃ W,X3 = W:=⟨_,rfl⟩
 rw [hWW] at HXW eW ⊢ k0 k1 k2 k3
 clear hWW
 refine (s_sameS _ _ _ _ (FC.out.ext HXW.out) (intss3 k3 (ints_at (l:=[2]) k0 (by simp)) (ints_at (l:=[3]) k1 (by simp)) (ints_at (l:=[0,1]) k2 (by simp)))).mono ?_
 rintro e w28 ⟨rfl,hx⟩
 have hxx:Ext w27 w28:=HXW.out.trans hx
 replace HXA:=Lib.hid (HXA.out.trans hxx)
 replace HTAB:=Lib.hid (HTAB.out.ext hxx)
 clear FC
 replace FP:=Lib.hid (FP.out.ext hxx)
 replace FL:=Lib.hid (FL.out.ext hxx)
 replace B13:=Lib.hid (B13.out.ext hxx)
 replace B15:=Lib.hid (B15.out.ext hxx)
 replace B17:=Lib.hid (B17.out.ext hxx)
 replace B19:=Lib.hid (B19.out.ext hxx)
 replace B21:=Lib.hid (B21.out.ext hxx)
 replace B25:=Lib.hid (B25.out.ext hxx)
 clear hx hxx HXW eW k0 k1 k2 k3
 go_wp2_with fail
 change Calls _ _ _ (((w28.alloc (.cells #[.int .i64 0,.int .i64 2,.int .i64 3] 3)).alloc (.cells #[.int .i64 1,.int .i64 2,.int .i64 3] 3)).alloc (.cells #[.slice (some ⟨w28.heap.size,0,none⟩) 3 3,.slice (some ⟨w28.heap.size + 1,0,none⟩) 3 3] 39)) _
 have k0:=Blk.made w28 3 #[.int .i64 0,.int .i64 2,.int .i64 3]
 have x0:=Ext.box w28 (.cells #[.int .i64 0,.int .i64 2,.int .i64 3] 3)
 have es0:(w28.alloc (.cells #[.int .i64 0,.int .i64 2,.int .i64 3] 3)).heap.size = w28.heap.size + 1:=by simp
 obtain ⟨X0,hX0⟩:∃ X,w28.alloc (.cells #[.int .i64 0,.int .i64 2,.int .i64 3] 3) = X:=⟨_,rfl⟩
 rw [hX0] at k0 x0 es0 ⊢
 clear hX0
 have k1:=Blk.made X0 3 #[.int .i64 1,.int .i64 2,.int .i64 3]
 have x1:=Ext.box X0 (.cells #[.int .i64 1,.int .i64 2,.int .i64 3] 3)
 have es1:(X0.alloc (.cells #[.int .i64 1,.int .i64 2,.int .i64 3] 3)).heap.size = X0.heap.size + 1:=by simp
 obtain ⟨X1,hX1⟩:∃ X,X0.alloc (.cells #[.int .i64 1,.int .i64 2,.int .i64 3] 3) = X:=⟨_,rfl⟩
 rw [hX1] at k1 x1 es1 ⊢
 clear hX1
 have k2:=Blk.made X1 39 #[.slice (some ⟨w28.heap.size,0,none⟩) 3 3,.slice (some ⟨w28.heap.size + 1,0,none⟩) 3 3]
 have x2:=Ext.box X1 (.cells #[.slice (some ⟨w28.heap.size,0,none⟩) 3 3,.slice (some ⟨w28.heap.size + 1,0,none⟩) 3 3] 39)
 have es2:(X1.alloc (.cells #[.slice (some ⟨w28.heap.size,0,none⟩) 3 3,.slice (some ⟨w28.heap.size + 1,0,none⟩) 3 3] 39)).heap.size = X1.heap.size + 1:=by simp
 obtain ⟨X2,hX2⟩:∃ X,X1.alloc (.cells #[.slice (some ⟨w28.heap.size,0,none⟩) 3 3,.slice (some ⟨w28.heap.size + 1,0,none⟩) 3 3] 39) = X:=⟨_,rfl⟩
 rw [hX2] at k2 x2 es2 ⊢
 clear hX2
 replace k0:=(k0.ext x1).ext x2
 replace k1:=k1.ext x2
 have e0:X0.heap.size = w28.heap.size + 1:=by omega
 have e1:X1.heap.size = w28.heap.size + 1 + 1:=by omega
 have e2:X2.heap.size = w28.heap.size + 1 + 1 + 1:=by omega
 rw [e0] at k1
 rw [e1] at k2
 have HXW:Hid (Ext w28 X2):=by exact (Ext.trans (Ext.trans (x0) x1) x2:Ext w28 X2)
 have eW:X2.heap.size = w28.heap.size + 1 + 1 + 1:=e2
 clear x0 es0 e0 x1 es1 e1 x2 es2 e2
 obtain ⟨W,hWW⟩:∃ W,X2 = W:=⟨_,rfl⟩
 rw [hWW] at HXW eW ⊢ k0 k1 k2
 clear hWW
 refine (s_sameS _ _ _ _ (FP.out.ext HXW.out) (intss2 k2 (ints_at (l:=[0,2,3]) k0 (by simp)) (ints_at (l:=[1,2,3]) k1 (by simp)))).mono ?_
 rintro e w29 ⟨rfl,hx⟩
 have hxx:Ext w28 w29:=HXW.out.trans hx
 replace HXA:=Lib.hid (HXA.out.trans hxx)
 replace HTAB:=Lib.hid (HTAB.out.ext hxx)
 clear FP
 replace FL:=Lib.hid (FL.out.ext hxx)
 replace B13:=Lib.hid (B13.out.ext hxx)
 replace B15:=Lib.hid (B15.out.ext hxx)
 replace B17:=Lib.hid (B17.out.ext hxx)
 replace B19:=Lib.hid (B19.out.ext hxx)
 replace B21:=Lib.hid (B21.out.ext hxx)
 replace B25:=Lib.hid (B25.out.ext hxx)
 clear hx hxx HXW eW k0 k1 k2
 go_wp2_with fail
 change Calls _ _ _ (w29.alloc (.cells #[.int .i64 2,.int .i64 3] 3)) _
 have k0:=Blk.made w29 3 #[.int .i64 2,.int .i64 3]
 have x0:=Ext.box w29 (.cells #[.int .i64 2,.int .i64 3] 3)
 have es0:(w29.alloc (.cells #[.int .i64 2,.int .i64 3] 3)).heap.size = w29.heap.size + 1:=by simp
 obtain ⟨X0,hX0⟩:∃ X,w29.alloc (.cells #[.int .i64 2,.int .i64 3] 3) = X:=⟨_,rfl⟩
 rw [hX0] at k0 x0 es0 ⊢
 clear hX0
 have e0:X0.heap.size = w29.heap.size + 1:=by omega
 have HXW:Hid (Ext w29 X0):=by exact (x0:Ext w29 X0)
 have eW:X0.heap.size = w29.heap.size + 1:=e0
 clear x0 es0 e0
 obtain ⟨W,hWW⟩:∃ W,X0 = W:=⟨_,rfl⟩
 rw [hWW] at HXW eW ⊢ k0
 clear hWW
 refine (s_sameI _ _ _ _ (FL.out.ext HXW.out) (ints_at (l:=[2,3]) k0 (by simp))).mono ?_
 rintro e w30 ⟨rfl,hx⟩
 have hxx:Ext w29 w30:=HXW.out.trans hx
 replace HXA:=Lib.hid (HXA.out.trans hxx)
 replace HTAB:=Lib.hid (HTAB.out.ext hxx)
 clear FL
 replace B13:=Lib.hid (B13.out.ext hxx)
 replace B15:=Lib.hid (B15.out.ext hxx)
 replace B17:=Lib.hid (B17.out.ext hxx)
 replace B19:=Lib.hid (B19.out.ext hxx)
 replace B21:=Lib.hid (B21.out.ext hxx)
 replace B25:=Lib.hid (B25.out.ext hxx)
 clear hx hxx HXW eW k0
 have b13_0:=B13.out.cell 0
 have b13_1:=B13.out.cell 1
 have b15_0:=B15.out.cell 0
 have b15_1:=B15.out.cell 1
 have b17_0:=B17.out.cell 0
 have b17_1:=B17.out.cell 1
 have b19_0:=B19.out.cell 0
 have b19_1:=B19.out.cell 1
 have b21_0:=B21.out.cell 0
 have b21_1:=B21.out.cell 1
 have b25_0:=B25.out.cell 0
 have b25_1:=B25.out.cell 1
 simp only [List.getElem?_toArray,List.getElem?_cons_zero,List.getElem?_cons_succ] at b13_0 b13_1 b15_0 b15_1 b17_0 b17_1 b19_0 b19_1 b21_0 b21_1 b25_0 b25_1
 go_wp2_with fail
 refine (sample_any _).mono ?_
 rintro e w31 ⟨u14,rfl,ht,hx⟩
 have hxx:Ext w30 w31:=hx
 replace HXA:=Lib.hid (HXA.out.trans hxx)
 replace HTAB:=Lib.hid (HTAB.out.ext hxx)
 replace B13:=Lib.hid (B13.out.ext hxx)
 replace B15:=Lib.hid (B15.out.ext hxx)
 replace B17:=Lib.hid (B17.out.ext hxx)
 replace B19:=Lib.hid (B19.out.ext hxx)
 replace B21:=Lib.hid (B21.out.ext hxx)
 replace B25:=Lib.hid (B25.out.ext hxx)
 clear hx hxx
 have HU:=Lib.hid ht
 clear ht
 clear b13_0 b13_1 b15_0 b15_1 b17_0 b17_1 b19_0 b19_1 b21_0 b21_1 b25_0 b25_1
 clear B13 B15 B17 B19 B21 B25
 go_wp2_with fail
 change Calls _ _ _ ((((((w31.alloc (.cells #[.int .i64 2] 3)).alloc (.cells #[.int .i64 0,.int .i64 1] 3)).alloc (.cells #[.slice (some ⟨w31.heap.size,0,none⟩) 1 1,.slice (some ⟨w31.heap.size + 1,0,none⟩) 2 2] 39)).alloc (.cells #[.int .i64 0,.int .i64 2,.int .i64 3] 3)).alloc (.cells #[.int .i64 1,.int .i64 2,.int .i64 3] 3)).alloc (.cells #[.slice (some ⟨w31.heap.size + 1 + 1 + 1,0,none⟩) 3 3,.slice (some ⟨w31.heap.size + 1 + 1 + 1 + 1,0,none⟩) 3 3] 39)) _
 have k0:=Blk.made w31 3 #[.int .i64 2]
 have x0:=Ext.box w31 (.cells #[.int .i64 2] 3)
 have es0:(w31.alloc (.cells #[.int .i64 2] 3)).heap.size = w31.heap.size + 1:=by simp
 obtain ⟨X0,hX0⟩:∃ X,w31.alloc (.cells #[.int .i64 2] 3) = X:=⟨_,rfl⟩
 rw [hX0] at k0 x0 es0 ⊢
 clear hX0
 have k1:=Blk.made X0 3 #[.int .i64 0,.int .i64 1]
 have x1:=Ext.box X0 (.cells #[.int .i64 0,.int .i64 1] 3)
 have es1:(X0.alloc (.cells #[.int .i64 0,.int .i64 1] 3)).heap.size = X0.heap.size + 1:=by simp
 obtain ⟨X1,hX1⟩:∃ X,X0.alloc (.cells #[.int .i64 0,.int .i64 1] 3) = X:=⟨_,rfl⟩
 rw [hX1] at k1 x1 es1 ⊢
 clear hX1
 have k2:=Blk.made X1 39 #[.slice (some ⟨w31.heap.size,0,none⟩) 1 1,.slice (some ⟨w31.heap.size + 1,0,none⟩) 2 2]
 have x2:=Ext.box X1 (.cells #[.slice (some ⟨w31.heap.size,0,none⟩) 1 1,.slice (some ⟨w31.heap.size + 1,0,none⟩) 2 2] 39)
 have es2:(X1.alloc (.cells #[.slice (some ⟨w31.heap.size,0,none⟩) 1 1,.slice (some ⟨w31.heap.size + 1,0,none⟩) 2 2] 39)).heap.size = X1.heap.size + 1:=by simp
 obtain ⟨X2,hX2⟩:∃ X,X1.alloc (.cells #[.slice (some ⟨w31.heap.size,0,none⟩) 1 1,.slice (some ⟨w31.heap.size + 1,0,none⟩) 2 2] 39) = X:=⟨_,rfl⟩
 rw [hX2] at k2 x2 es2 ⊢
 clear hX2
 have k3:=Blk.made X2 3 #[.int .i64 0,.int .i64 2,.int .i64 3]
 have x3:=Ext.box X2 (.cells #[.int .i64 0,.int .i64 2,.int .i64 3] 3)
 have es3:(X2.alloc (.cells #[.int .i64 0,.int .i64 2,.int .i64 3] 3)).heap.size = X2.heap.size + 1:=by simp
 obtain ⟨X3,hX3⟩:∃ X,X2.alloc (.cells #[.int .i64 0,.int .i64 2,.int .i64 3] 3) = X:=⟨_,rfl⟩
 rw [hX3] at k3 x3 es3 ⊢
 clear hX3
 have k4:=Blk.made X3 3 #[.int .i64 1,.int .i64 2,.int .i64 3]
 have x4:=Ext.box X3 (.cells #[.int .i64 1,.int .i64 2,.int .i64 3] 3)
 have es4:(X3.alloc (.cells #[.int .i64 1,.int .i64 2,.int .i64 3] 3)).heap.size = X3.heap.size + 1:=by simp
 obtain ⟨X4,hX4⟩:∃ X,X3.alloc (.cells #[.int .i64 1,.int .i64 2,.int .i64 3] 3) = X:=⟨_,rfl⟩
 rw [hX4] at k4 x4 es4 ⊢
 clear hX4
 have k5:=Blk.made X4 39 #[.slice (some ⟨w31.heap.size + 1 + 1 + 1,0,none⟩) 3 3,.slice (some ⟨w31.heap.size + 1 + 1 + 1 + 1,0,none⟩) 3 3]
 have x5:=Ext.box X4 (.cells #[.slice (some ⟨w31.heap.size + 1 + 1 + 1,0,none⟩) 3 3,.slice (some ⟨w31.heap.size + 1 + 1 + 1 + 1,0,none⟩) 3 3] 39)
 have es5:(X4.alloc (.cells #[.slice (some ⟨w31.heap.size + 1 + 1 + 1,0,none⟩) 3 3,.slice (some ⟨w31.heap.size + 1 + 1 + 1 + 1,0,none⟩) 3 3] 39)).heap.size = X4.heap.size + 1:=by simp
 obtain ⟨X5,hX5⟩:∃ X,X4.alloc (.cells #[.slice (some ⟨w31.heap.size + 1 + 1 + 1,0,none⟩) 3 3,.slice (some ⟨w31.heap.size + 1 + 1 + 1 + 1,0,none⟩) 3 3] 39) = X:=⟨_,rfl⟩
 rw [hX5] at k5 x5 es5 ⊢
 clear hX5
 replace k0:=((((k0.ext x1).ext x2).ext x3).ext x4).ext x5
 replace k1:=(((k1.ext x2).ext x3).ext x4).ext x5
 replace k2:=((k2.ext x3).ext x4).ext x5
 replace k3:=(k3.ext x4).ext x5
 replace k4:=k4.ext x5
 have e0:X0.heap.size = w31.heap.size + 1:=by omega
 have e1:X1.heap.size = w31.heap.size + 1 + 1:=by omega
 have e2:X2.heap.size = w31.heap.size + 1 + 1 + 1:=by omega
 have e3:X3.heap.size = w31.heap.size + 1 + 1 + 1 + 1:=by omega
 have e4:X4.heap.size = w31.heap.size + 1 + 1 + 1 + 1 + 1:=by omega
 have e5:X5.heap.size = w31.heap.size + 1 + 1 + 1 + 1 + 1 + 1:=by omega
 rw [e0] at k1
 rw [e1] at k2
 rw [e2] at k3
 rw [e3] at k4
 rw [e4] at k5
 have HXW:Hid (Ext w31 X5):=by exact (Ext.trans (Ext.trans (Ext.trans (Ext.trans (Ext.trans (x0) x1) x2) x3) x4) x5:Ext w31 X5)
 have eW:X5.heap.size = w31.heap.size + 1 + 1 + 1 + 1 + 1 + 1:=e5
 clear x0 es0 e0 x1 es1 e1 x2 es2 e2 x3 es3 e3 x4 es4 e4 x5 es5 e5
 obtain ⟨W,hWW⟩:∃ W,X5 = W:=⟨_,rfl⟩
 rw [hWW] at HXW eW ⊢ k0 k1 k2 k3 k4 k5
 clear hWW
 refine (s_cc _ _ _ _ (HU.out.ext HXW.out) (intss2 k2 (ints_at (l:=[2]) k0 (by simp)) (ints_at (l:=[0,1]) k1 (by simp))) (intss2 k5 (ints_at (l:=[0,2,3]) k3 (by simp)) (ints_at (l:=[1,2,3]) k4 (by simp)))).mono ?_
 rintro e w32 ⟨rfl,hx⟩
 have hxx:Ext w31 w32:=HXW.out.trans hx
 replace HXA:=Lib.hid (HXA.out.trans hxx)
 replace HTAB:=Lib.hid (HTAB.out.ext hxx)
 clear hx hxx HXW eW k0 k1 k2 k3 k4 k5
 clear HU
 go_wp2_with fail
 refine (sample_any _).mono ?_
 rintro e w33 ⟨u15,rfl,ht,hx⟩
 have hxx:Ext w32 w33:=hx
 replace HXA:=Lib.hid (HXA.out.trans hxx)
 replace HTAB:=Lib.hid (HTAB.out.ext hxx)
 clear hx hxx
 have HU:=Lib.hid ht
 clear ht
 go_wp2_with fail
 change Calls _ _ _ (w33.alloc (.cells #[.int .i64 16,.int .i64 4,.int .i64 8,.int .i64 1] 3)) _
 have k0:=Blk.made w33 3 #[.int .i64 16,.int .i64 4,.int .i64 8,.int .i64 1]
 have x0:=Ext.box w33 (.cells #[.int .i64 16,.int .i64 4,.int .i64 8,.int .i64 1] 3)
 have es0:(w33.alloc (.cells #[.int .i64 16,.int .i64 4,.int .i64 8,.int .i64 1] 3)).heap.size = w33.heap.size + 1:=by simp
 obtain ⟨X0,hX0⟩:∃ X,w33.alloc (.cells #[.int .i64 16,.int .i64 4,.int .i64 8,.int .i64 1] 3) = X:=⟨_,rfl⟩
 rw [hX0] at k0 x0 es0 ⊢
 clear hX0
 have e0:X0.heap.size = w33.heap.size + 1:=by omega
 have HXW:Hid (Ext w33 X0):=by exact (x0:Ext w33 X0)
 have eW:X0.heap.size = w33.heap.size + 1:=e0
 clear x0 es0 e0
 obtain ⟨W,hWW⟩:∃ W,X0 = W:=⟨_,rfl⟩
 rw [hWW] at HXW eW ⊢ k0
 clear hWW
 refine (s_interval _ _ _ (HU.out.ext HXW.out) (ints_at (l:=[16,4,8,1]) k0 (by simp))).mono ?_
 rintro e w34 ⟨rfl,hx⟩
 have hxx:Ext w33 w34:=HXW.out.trans hx
 replace HXA:=Lib.hid (HXA.out.trans hxx)
 replace HTAB:=Lib.hid (HTAB.out.ext hxx)
 clear hx hxx HXW eW k0
 clear HU
 go_wp2_with fail
 change Calls _ _ _ (w34.alloc (.cells #[.int .i64 151,.int .i64 256,.int .i64 83,.int .i64 128] 85)) _
 have k0:=Blk.made w34 85 #[.int .i64 151,.int .i64 256,.int .i64 83,.int .i64 128]
 have x0:=Ext.box w34 (.cells #[.int .i64 151,.int .i64 256,.int .i64 83,.int .i64 128] 85)
 have es0:(w34.alloc (.cells #[.int .i64 151,.int .i64 256,.int .i64 83,.int .i64 128] 85)).heap.size = w34.heap.size + 1:=by simp
 obtain ⟨X0,hX0⟩:∃ X,w34.alloc (.cells #[.int .i64 151,.int .i64 256,.int .i64 83,.int .i64 128] 85) = X:=⟨_,rfl⟩
 rw [hX0] at k0 x0 es0 ⊢
 clear hX0
 have e0:X0.heap.size = w34.heap.size + 1:=by omega
 have HXW:Hid (Ext w34 X0):=by exact (x0:Ext w34 X0)
 have eW:X0.heap.size = w34.heap.size + 1:=e0
 clear x0 es0 e0
 obtain ⟨W,hWW⟩:∃ W,X0 = W:=⟨_,rfl⟩
 rw [hWW] at HXW eW ⊢ k0
 clear hWW
 refine (sample_any _).mono ?_
 rintro e w35 ⟨u16,rfl,ht,hx⟩
 have hxx:Ext w34 w35:=HXW.out.trans hx
 replace HXA:=Lib.hid (HXA.out.trans hxx)
 replace HTAB:=Lib.hid (HTAB.out.ext hxx)
 have B28:=Lib.hid (k0.ext hx)
 clear hx hxx HXW eW k0
 have HU:=Lib.hid ht
 clear ht
 go_wp2_with fail
 refine (s_next _ _ HU.out).mono ?_
 rintro e w36 ⟨rfl,hx⟩
 have hxx:Ext w35 w36:=hx
 replace HXA:=Lib.hid (HXA.out.trans hxx)
 replace HTAB:=Lib.hid (HTAB.out.ext hxx)
 replace B28:=Lib.hid (B28.out.ext hxx)
 clear hx hxx
 clear HU
 go_wp2_with fail
 change Calls _ _ _ (w36.alloc (.cells #[.int .i64 23,.int .i64 128] 59)) _
 have k0:=Blk.made w36 59 #[.int .i64 23,.int .i64 128]
 have x0:=Ext.box w36 (.cells #[.int .i64 23,.int .i64 128] 59)
 have es0:(w36.alloc (.cells #[.int .i64 23,.int .i64 128] 59)).heap.size = w36.heap.size + 1:=by simp
 obtain ⟨X0,hX0⟩:∃ X,w36.alloc (.cells #[.int .i64 23,.int .i64 128] 59) = X:=⟨_,rfl⟩
 rw [hX0] at k0 x0 es0 ⊢
 clear hX0
 have e0:X0.heap.size = w36.heap.size + 1:=by omega
 have HXW:Hid (Ext w36 X0):=by exact (x0:Ext w36 X0)
 have eW:X0.heap.size = w36.heap.size + 1:=e0
 clear x0 es0 e0
 obtain ⟨W,hWW⟩:∃ W,X0 = W:=⟨_,rfl⟩
 rw [hWW] at HXW eW ⊢ k0
 clear hWW
 refine (sample_any _).mono ?_
 rintro e w37 ⟨u17,rfl,ht,hx⟩
 have hxx:Ext w36 w37:=HXW.out.trans hx
 replace HXA:=Lib.hid (HXA.out.trans hxx)
 replace HTAB:=Lib.hid (HTAB.out.ext hxx)
 replace B28:=Lib.hid (B28.out.ext hxx)
 have B31:=Lib.hid (k0.ext hx)
 clear hx hxx HXW eW k0
 have HU:=Lib.hid ht
 clear ht
 go_wp2_with fail
 refine (s_without _ _ HU.out).mono ?_
 rintro e w38 ⟨xw,rfl,hr,hx⟩
 have hxx:Ext w37 w38:=hx
 replace HXA:=Lib.hid (HXA.out.trans hxx)
 replace HTAB:=Lib.hid (HTAB.out.ext hxx)
 replace B28:=Lib.hid (B28.out.ext hxx)
 replace B31:=Lib.hid (B31.out.ext hxx)
 clear hx hxx
 clear HU
 obtain ⟨a,b,c,rfl,h3⟩:=hr
 obtain ⟨Xa,Xp,rfl,_,_,_⟩:=h3.basics.opened
 obtain ⟨Xb,Xq,rfl,_,_,_⟩:=h3.causes.opened
 obtain ⟨Xc,Xr,rfl,_,_,_⟩:=h3.gates.opened
 have HW:=Lib.hid h3
 clear h3
 go_wp2_with fail
 change Calls _ _ _ (w38.alloc (.cells #[.slice Xa sampleW.basics.length Xp,.slice Xb sampleW.causes.length Xq,.slice Xc sampleW.gates.length Xr] 37)) _
 have k0:=Blk.made w38 37 #[.slice Xa sampleW.basics.length Xp,.slice Xb sampleW.causes.length Xq,.slice Xc sampleW.gates.length Xr]
 have x0:=Ext.box w38 (.cells #[.slice Xa sampleW.basics.length Xp,.slice Xb sampleW.causes.length Xq,.slice Xc sampleW.gates.length Xr] 37)
 have es0:(w38.alloc (.cells #[.slice Xa sampleW.basics.length Xp,.slice Xb sampleW.causes.length Xq,.slice Xc sampleW.gates.length Xr] 37)).heap.size = w38.heap.size + 1:=by simp
 obtain ⟨X0,hX0⟩:∃ X,w38.alloc (.cells #[.slice Xa sampleW.basics.length Xp,.slice Xb sampleW.causes.length Xq,.slice Xc sampleW.gates.length Xr] 37) = X:=⟨_,rfl⟩
 rw [hX0] at k0 x0 es0 ⊢
 clear hX0
 have e0:X0.heap.size = w38.heap.size + 1:=by omega
 have HXW:Hid (Ext w38 X0):=by exact (x0:Ext w38 X0)
 have eW:X0.heap.size = w38.heap.size + 1:=e0
 clear x0 es0 e0
 obtain ⟨W,hWW⟩:∃ W,X0 = W:=⟨_,rfl⟩
 rw [hWW] at HXW eW ⊢ k0
 clear hWW
 refine (s_chanceW _ _ ⟨_,_,_,rfl,(HW.out.ext HXW.out)⟩).mono ?_
 rintro e w39 ⟨rfl,hx⟩
 have hxx:Ext w38 w39:=HXW.out.trans hx
 replace HXA:=Lib.hid (HXA.out.trans hxx)
 replace HTAB:=Lib.hid (HTAB.out.ext hxx)
 replace B28:=Lib.hid (B28.out.ext hxx)
 replace B31:=Lib.hid (B31.out.ext hxx)
 replace HW:=Lib.hid (HW.out.ext hxx)
 have BW:=Lib.hid (k0.ext hx)
 clear hx hxx HXW eW k0
 have c0:=BW.out.cell 0
 have c1:=BW.out.cell 1
 have c2:=BW.out.cell 2
 simp only [List.getElem?_toArray,List.getElem?_cons_zero,List.getElem?_cons_succ] at c0 c1 c2
 have x0:=Ext.box w39 (.cells #[.int .i64 9,.int .i64 16] 59)
 replace c0:=x0.cell c0
 replace c1:=x0.cell c1
 replace c2:=x0.cell c2
 go_wp2_with fail
 change Calls _ _ _ (w39.alloc (.cells #[.int .i64 9,.int .i64 16] 59)) _
 have k0:=Blk.made w39 59 #[.int .i64 9,.int .i64 16]
 have x0:=Ext.box w39 (.cells #[.int .i64 9,.int .i64 16] 59)
 have es0:(w39.alloc (.cells #[.int .i64 9,.int .i64 16] 59)).heap.size = w39.heap.size + 1:=by simp
 obtain ⟨X0,hX0⟩:∃ X,w39.alloc (.cells #[.int .i64 9,.int .i64 16] 59) = X:=⟨_,rfl⟩
 rw [hX0] at k0 x0 es0 ⊢
 clear hX0
 have e0:X0.heap.size = w39.heap.size + 1:=by omega
 have HXW:Hid (Ext w39 X0):=by exact (x0:Ext w39 X0)
 have eW:X0.heap.size = w39.heap.size + 1:=e0
 clear x0 es0 e0
 obtain ⟨W,hWW⟩:∃ W,X0 = W:=⟨_,rfl⟩
 rw [hWW] at HXW eW ⊢ k0
 clear hWW
 refine (s_dual _ _ ⟨_,_,_,rfl,(HW.out.ext HXW.out)⟩).mono ?_
 rintro e w40 ⟨xd,rfl,hr,hx⟩
 have hxx:Ext w39 w40:=HXW.out.trans hx
 replace HXA:=Lib.hid (HXA.out.trans hxx)
 replace HTAB:=Lib.hid (HTAB.out.ext hxx)
 replace B28:=Lib.hid (B28.out.ext hxx)
 replace B31:=Lib.hid (B31.out.ext hxx)
 replace HW:=Lib.hid (HW.out.ext hxx)
 replace BW:=Lib.hid (BW.out.ext hxx)
 have B35:=Lib.hid (k0.ext hx)
 clear hx hxx HXW eW k0
 clear c0 c1 c2 x0
 obtain ⟨a,b,c,rfl,h3⟩:=hr
 obtain ⟨Ya,Yp,rfl,_,_,_⟩:=h3.basics.opened
 obtain ⟨Yb,Yq,rfl,_,_,_⟩:=h3.causes.opened
 obtain ⟨Yc,Yr,rfl,_,_,_⟩:=h3.gates.opened
 have HD:=Lib.hid h3
 clear h3
 go_wp2_with fail
 change Calls _ _ _ (w40.alloc (.cells #[.slice Ya sampleD.basics.length Yp,.slice Yb sampleD.causes.length Yq,.slice Yc sampleD.gates.length Yr] 37)) _
 have k0:=Blk.made w40 37 #[.slice Ya sampleD.basics.length Yp,.slice Yb sampleD.causes.length Yq,.slice Yc sampleD.gates.length Yr]
 have x0:=Ext.box w40 (.cells #[.slice Ya sampleD.basics.length Yp,.slice Yb sampleD.causes.length Yq,.slice Yc sampleD.gates.length Yr] 37)
 have es0:(w40.alloc (.cells #[.slice Ya sampleD.basics.length Yp,.slice Yb sampleD.causes.length Yq,.slice Yc sampleD.gates.length Yr] 37)).heap.size = w40.heap.size + 1:=by simp
 obtain ⟨X0,hX0⟩:∃ X,w40.alloc (.cells #[.slice Ya sampleD.basics.length Yp,.slice Yb sampleD.causes.length Yq,.slice Yc sampleD.gates.length Yr] 37) = X:=⟨_,rfl⟩
 rw [hX0] at k0 x0 es0 ⊢
 clear hX0
 have e0:X0.heap.size = w40.heap.size + 1:=by omega
 have HXW:Hid (Ext w40 X0):=by exact (x0:Ext w40 X0)
 have eW:X0.heap.size = w40.heap.size + 1:=e0
 clear x0 es0 e0
 obtain ⟨W,hWW⟩:∃ W,X0 = W:=⟨_,rfl⟩
 rw [hWW] at HXW eW ⊢ k0
 clear hWW
 refine (s_chanceD _ _ ⟨_,_,_,rfl,(HD.out.ext HXW.out)⟩).mono ?_
 rintro e w41 ⟨rfl,hx⟩
 have hxx:Ext w40 w41:=HXW.out.trans hx
 replace HXA:=Lib.hid (HXA.out.trans hxx)
 replace HTAB:=Lib.hid (HTAB.out.ext hxx)
 replace B28:=Lib.hid (B28.out.ext hxx)
 replace B31:=Lib.hid (B31.out.ext hxx)
 replace HW:=Lib.hid (HW.out.ext hxx)
 replace BW:=Lib.hid (BW.out.ext hxx)
 replace B35:=Lib.hid (B35.out.ext hxx)
 replace HD:=Lib.hid (HD.out.ext hxx)
 clear hx hxx HXW eW k0
 go_wp2_with fail
 change Calls _ _ _ (w41.alloc (.cells #[.int .i64 7,.int .i64 16] 59)) _
 have k0:=Blk.made w41 59 #[.int .i64 7,.int .i64 16]
 have x0:=Ext.box w41 (.cells #[.int .i64 7,.int .i64 16] 59)
 have es0:(w41.alloc (.cells #[.int .i64 7,.int .i64 16] 59)).heap.size = w41.heap.size + 1:=by simp
 obtain ⟨X0,hX0⟩:∃ X,w41.alloc (.cells #[.int .i64 7,.int .i64 16] 59) = X:=⟨_,rfl⟩
 rw [hX0] at k0 x0 es0 ⊢
 clear hX0
 have e0:X0.heap.size = w41.heap.size + 1:=by omega
 have HXW:Hid (Ext w41 X0):=by exact (x0:Ext w41 X0)
 have eW:X0.heap.size = w41.heap.size + 1:=e0
 clear x0 es0 e0
 obtain ⟨W,hWW⟩:∃ W,X0 = W:=⟨_,rfl⟩
 rw [hWW] at HXW eW ⊢ k0
 clear hWW
 refine (sample_any _).mono ?_
 rintro e w42 ⟨u18,rfl,ht,hx⟩
 have hxx:Ext w41 w42:=HXW.out.trans hx
 replace HXA:=Lib.hid (HXA.out.trans hxx)
 replace HTAB:=Lib.hid (HTAB.out.ext hxx)
 replace B28:=Lib.hid (B28.out.ext hxx)
 replace B31:=Lib.hid (B31.out.ext hxx)
 replace HW:=Lib.hid (HW.out.ext hxx)
 replace BW:=Lib.hid (BW.out.ext hxx)
 replace B35:=Lib.hid (B35.out.ext hxx)
 replace HD:=Lib.hid (HD.out.ext hxx)
 have B39:=Lib.hid (k0.ext hx)
 clear hx hxx HXW eW k0
 have HU:=Lib.hid ht
 clear ht
 go_wp2_with fail
 refine (s_print _ _ HU.out).mono ?_
 rintro e w43 ⟨rfl,hx⟩
 have hxx:Ext w42 w43:=hx
 replace HXA:=Lib.hid (HXA.out.trans hxx)
 replace HTAB:=Lib.hid (HTAB.out.ext hxx)
 replace B28:=Lib.hid (B28.out.ext hxx)
 replace B31:=Lib.hid (B31.out.ext hxx)
 replace HW:=Lib.hid (HW.out.ext hxx)
 replace BW:=Lib.hid (BW.out.ext hxx)
 replace B35:=Lib.hid (B35.out.ext hxx)
 replace HD:=Lib.hid (HD.out.ext hxx)
 replace B39:=Lib.hid (B39.out.ext hxx)
 clear hx hxx
 clear HU
 have b28_0:=B28.out.cell 0
 have b28_1:=B28.out.cell 1
 have b28_2:=B28.out.cell 2
 have b28_3:=B28.out.cell 3
 have b31_0:=B31.out.cell 0
 have b31_1:=B31.out.cell 1
 have b35_0:=B35.out.cell 0
 have b35_1:=B35.out.cell 1
 have b39_0:=B39.out.cell 0
 have b39_1:=B39.out.cell 1
 simp only [List.getElem?_toArray,List.getElem?_cons_zero,List.getElem?_cons_succ] at b28_0 b28_1 b28_2 b28_3 b31_0 b31_1 b35_0 b35_1 b39_0 b39_1
 go_wp2
 go_ret
 exact ⟨congrArg Ending.returned (congrArg Value.bool v_text),HXA.out⟩
end Go.Proofs
