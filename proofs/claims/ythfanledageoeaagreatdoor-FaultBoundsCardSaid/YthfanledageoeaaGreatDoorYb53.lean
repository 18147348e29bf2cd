/- The law FaultBounds: for every input the call returns true, and each argument reads afterwards as before: the row's statement, and its tied card. The listed tables of math/bits and strconv are as the program's text lays them. -/
import Derived.Test.YthfanledageoeaaGreatDoorYb22
import Derived.Test.YthfanledageoeaaGreatDoorYb52
set_option linter.unusedVariables false
set_option linter.unusedSimpArgs false
set_option linter.constructorNameAsVariable false
namespace Go.Proofs.YthfanledageoeaaGreatDoor
open Go.ChangeShapes Go.WideShapes Go.ChangeAt Go.RowKit Go.Tw
set_option maxRecDepth 100000 in
theorem faultBounds_lifted (os:Os) (started:os.Started) (H:Type) (enc:TypeId × Value → H) :
    ReturnsInHanded {} Tryz.checked os 7 .any (fun w args=>(Rows.faultBoundsSpec.pre enc Tryz.prog Tryz.f7 Rows.faultBoundsRow.domain false w args ∧ laidMetH Tryz.prog laidL w) ∧ sizedMet enc Tryz.prog Tryz.f7 (OpenSpec.ofChange Rows.faultBoundsSpec) false w args)
     (Rows.faultBoundsSpec.post enc Tryz.prog Tryz.f7 false true false false):=by
 refine returnsInHanded_of_change_and (C:=Tryz.checked) (X:=fun w _=>laidMetH Tryz.prog laidL w) (fun _ _ _ hh h=>h.of_heap hh) own started (by kernel_rfl) Tryz.func7
  (ChangeSpec.witness_shaped (enc:=enc) (C:=Tryz.checked) (os:=os) (X:=fun w _=>laidMetH Tryz.prog laidL w) false (World.laidAll Tryz.prog os laidL) #[.agg #[.slice none 0 0,.slice none 0 0,.slice none 0 0],.slice none 0 0] 8 (World.laidAll_os _ _ _)
   (World.shaped_of_ZipB (by kernel_rfl) (by kernel_rfl)) (by kernel_rfl) (by kernel_rfl) (by kernel_rfl)
   (by rw [MakeChecks.laidMetH_plain _ _ _ (by kernel_rfl)]; exact laidMet_laidAll _ (by kernel_rfl) (by kernel_rfl))) ?_
 intro W base args ds gs before hval0 hW hc hsz0 hL _
 have hval:∀ (j:Nat) t v,Tryz.f7.params[j]? = some t → args[j]? = some v → Value.okWide Tryz.prog W .any base t v:=hval0
 have hsz:(DataW.weightsEach Tryz.prog (Tryz.f7.params.toList ++ Rows.faultBoundsSpec.plain.varTypes Tryz.prog) (ds ++ gs)).all (· ≤ reachBytes) = true:=hsz0
 have hW':=hW
 obtain ⟨p,q,hA0,hV,rfl,hfz,hnd⟩:=hW
 have hA:DataW.TrodAll enc Tryz.prog W 0 (fun _=>true) true Tryz.f7.params.toList args.toList ds p:=hA0
 rw [Tryz.params7] at hA hval hsz
 obtain ⟨v0,vs0,d0,ds0,p0,q0,hargs,rfl,rfl,h0,r0⟩:=trodAll_cons hA
 obtain ⟨v1,vs1,d1,ds1,p1,q1,rfl,rfl,rfl,h1,r1⟩:=trodAll_cons r0
 obtain ⟨rfl,rfl,rfl⟩:=trodAll_nil r1
 obtain rfl:args = #[v0,v1]:=by cases args; simp_all
 obtain ⟨rfl,rfl⟩:=trodVars_none hV
 have hfit:∀ x ∈ DataW.weightsEach Tryz.prog [26,39] [d0,d1],x ≤ 140737488351232:=fun x hx=>by
  have:=List.all_eq_true.1 (show (DataW.weightsEach Tryz.prog [26,39] [d0,d1]).all (· ≤ reachBytes) = true from hsz) x hx
  exact Nat.le_trans (of_decide_eq_true this) (by decide)
 obtain ⟨f0,g0⟩:=fits_each hfit
 obtain ⟨f1,g1⟩:=fits_each g0
 have k0:=h0
 have lt0:∀ x ∈ p0,x.block < W.heap.size:=by obtain ⟨m,hm⟩:=k0; exact DataW.trod_lt m _ _ _ hm
 obtain ⟨t0,HI0⟩:=tree_of_trod (hval 0 26 v0 rfl rfl) h0 f0
 have k1:=h1
 have lt1:∀ x ∈ p1,x.block < W.heap.size:=by obtain ⟨m,hm⟩:=k1; exact DataW.trod_lt m _ _ _ hm
 obtain ⟨a1,len1,cap1,rfl⟩:=okWide_slice Tryz.underlying39 (hval 1 39 v1 rfl rfl)
 obtain ⟨t1,HI1⟩:∃ l,IsInts W (.slice a1 len1 cap1) l:=by
  obtain ⟨m,hm⟩:=h1
  exact ints_of_trod (by simpa [Value.cells] using hm) f1
 clear hA0 hval0 hsz0
 refine (faultBounds_any _ _ _ _ _ HI0 HI1 (tab_of_laid hL)).mono fun e W' ⟨he,bel⟩=>?_
 subst he
 exact ⟨_,rfl,_,_,_,[],_,[],hW',trodAll_mk1 (shut_bool Tryz.underlying4 _),(trodAll_cons_mk (Below.trod laidOut (by kernel_rfl) (of_decide_eq_true (by kernel_rfl)) k0 bel lt0) (trodAll_cons_mk (Below.trod laidOut (by kernel_rfl) (of_decide_eq_true (by kernel_rfl)) k1 bel lt1) trodAll_mk0)),rfl,bel.frame _,fun h=>by cases h⟩
theorem faultBounds_holds:Rows.FaultBoundsSaid :=
 OpenClaim.holds_of_wide 7 Tryz.f7 rfl rfl rfl rfl rfl rfl rfl ⟨rfl,rfl,rfl,rfl,rfl⟩ rfl rfl rfl rfl rfl (by kernel_rfl) Tryz.func7 (by kernel_rfl)
  (of_decide_eq_true (by kernel_rfl)) (by unfold Func.isWrapper; first | (rw [if_pos (by decide +kernel)]; kernel_rfl) | (rw [if_neg (by decide +kernel)]; exact ⟨rfl,rfl⟩))
  (fun os started H enc _=>faultBounds_lifted os started H enc)
theorem faultBounds_card:Rows.FaultBoundsCardSaid :=
 Claim7.holds_tied_plain_at .later [] [.data,.data,.data] true _ false faultBounds_holds (fun _ h=>by cases h) (by kernel_rfl) (fun _ h=>by cases h) faultBounds_row_tie rfl ⟨rfl,rfl⟩ (by kernel_rfl) rfl
  (fun f fn hf hfn=>by
   obtain rfl:f = 7:=Option.some.inj ((show Tryz.prog.funcNamed Rows.faultBoundsRow.func = some 7 by kernel_rfl).symm.trans hf) |>.symm
   obtain rfl:fn = Tryz.f7:=(Option.some.inj (Tryz.func7.symm.trans hfn)).symm
   exact ⟨by kernel_rfl,fun j t ht=>by
    rw [Tryz.params7] at ht
    have hm:t ∈ [26,39]:=by simpa using Array.mem_of_getElem? ht
    have hall:([26,39].all fun u=>!Tryz.prog.wantsStandIn u) = true:=by kernel_rfl
    exact (show Tryz.prog.wantsStandIn t = false by simpa using List.all_eq_true.1 hall t hm)⟩)
  (by kernel_rfl)
#print axioms faultBounds_card
end Go.Proofs.YthfanledageoeaaGreatDoor
