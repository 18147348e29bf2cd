/- The law PolicySeasons: for every input the call returns true, and each argument reads afterwards as before: the row's statement, and its tied card. The listed tables of math/bits, strconv and policy are as the program's text lays them. -/
import Derived.Test.YthnobngcipaljaaGreatDoorPo34
import Derived.Test.YthnobngcipaljaaGreatDoorPo36
import Derived.Test.YthnobngcipaljaaGreatDoorPs01
import Derived.Test.YthnobngcipaljaaGreatDoorPs04
set_option maxRecDepth 1000000
set_option maxHeartbeats 64000000
set_option linter.unusedVariables false
set_option linter.unusedSimpArgs false
set_option linter.constructorNameAsVariable false
namespace Go.Proofs.YthnobngcipaljaaGreatDoor
open Go.ChangeShapes Go.WideShapes Go.ChangeAt Go.RowKit Go.Tw
theorem J5a (os:Os) (started:os.Started) (H:Type) (enc:TypeId × Value -> H) :
    ReturnsInHanded {} Tryz.checked os 6 .any (fun w args=>(Rows.policySeasonsSpec.pre enc Tryz.prog Tryz.f6 Rows.policySeasonsRow.domain false w args /\ laidMetH Tryz.prog Z2r w) /\ sizedMet enc Tryz.prog Tryz.f6 (OpenSpec.ofChange Rows.policySeasonsSpec) false w args)
     (Rows.policySeasonsSpec.post enc Tryz.prog Tryz.f6 false true false false):=by
 refine returnsInHanded_of_change_and (C:=Tryz.checked) (X:=fun w _=>laidMetH Tryz.prog Z2r w) (fun _ _ _ hh h=>h.of_heap hh) own started (by kernel_rfl) Tryz.func6
  (ChangeSpec.witness_shaped (enc:=enc) (C:=Tryz.checked) (os:=os) (X:=fun w _=>laidMetH Tryz.prog Z2r w) false (World.laidAll Tryz.prog os Z2r) #[.agg #[.int .i64 0,.slice none 0 0,.slice none 0 0]] 8 (World.laidAll_os _ _ _)
   (World.shaped_of_ZipB (by kernel_rfl) (by kernel_rfl)) (by kernel_rfl) (by kernel_rfl) (by kernel_rfl)
   (by rw [MakeChecks.laidMetH_plain _ _ _ (by kernel_rfl)]; exact laidMet_laidAll _ (by kernel_rfl) (by kernel_rfl))) ?_
 intro W base args ds gs before hval0 hW hc hsz0 hL _;have hval:∀ (j:Nat) t v,Tryz.f6.params[j]? = some t -> args[j]? = some v -> Value.okWide Tryz.prog W .any base t v:=hval0;have hsz:(DataW.weightsEach Tryz.prog (Tryz.f6.params.toList ++ Rows.policySeasonsSpec.plain.varTypes Tryz.prog) (ds ++ gs)).all (· <= reachBytes) = true:=hsz0;have hW':=hW;obtain ⟨p,q,hA0,hV,rfl,hfz,hnd⟩:=hW;have hA:DataW.TrodAll enc Tryz.prog W 0 (fun _=>true) true Tryz.f6.params.toList args.toList ds p:=hA0;rw [Tryz.params6] at hA hval hsz;obtain ⟨v0,vs0,d0,ds0,p0,q0,hargs,rfl,rfl,h0,r0⟩:=trodAll_cons hA;obtain ⟨rfl,rfl,rfl⟩:=trodAll_nil r0;obtain rfl:args = #[v0]:=by cases args; simp_all
 obtain ⟨rfl,rfl⟩:=trodVars_none hV;have hfit:∀ x ∈ DataW.weightsEach Tryz.prog [25] [d0],x <= 140737488351232:=fun x hx=>by
  have:=List.all_eq_true.1 (show (DataW.weightsEach Tryz.prog [25] [d0]).all (· <= reachBytes) = true from hsz) x hx
  exact Nat.le_trans (of_decide_eq_true this) (by decide)
 obtain ⟨f0,g0⟩:=Q3g hfit;have k0:=h0;have lt0:∀ x ∈ p0,x.block < W.heap.size:=by obtain ⟨m,hm⟩:=k0; exact DataW.trod_lt m _ _ _ hm
 obtain ⟨t0,HI0⟩:=X8x (hval 0 25 v0 rfl rfl) h0 f0;have hcall:Calls Tryz.prog 6 #[v0] W fun e W'=>e = .returned (.bool true) /\ Ext W W':=J5q _ _ _ HI0 (X1n hL);clear hA0 hval0 hsz0;refine hcall.mono fun e W' ⟨he,bel⟩=>?_;subst he;exact ⟨_,rfl,_,_,_,[],_,[],hW',trodAll_mk1 (shut_bool Tryz.underlying4 _),(trodAll_cons_mk (Below.trod laidOut (by kernel_rfl) (of_decide_eq_true (by kernel_rfl)) k0 bel lt0) trodAll_mk0),rfl,bel.frame _,fun h=>by cases h⟩
theorem J4t:Tryz.pinned.checked.prog.funcNamed Rows.policySeasonsRow.func = some 6:=by kernel_rfl
theorem J4w:Tryz.f6.isInstance Tryz.pinned.checked.prog Rows.policySeasonsRow.origin Rows.policySeasonsRow.targs:=of_decide_eq_true (by kernel_rfl)
theorem J6i:(Rows.policySeasonsRow.wf (OpenSpec.ofChange Rows.policySeasonsSpec):Bool) = true:=by kernel_rfl
theorem J6f:(Tryz.f6.params.all (Tryz.prog.readableRec ·):Bool) = true:=by kernel_rfl
theorem J6h:(namedTie Tryz.prog Rows.policySeasonsRow.named Rows.policySeasonsSpec.vars:Bool) = true:=by kernel_rfl
theorem J6j:((Rows.policySeasonsRow.stops == []):Bool) = true:=by kernel_rfl
theorem J6k:((Rows.policySeasonsRow.knobs == []):Bool) = true:=by kernel_rfl
theorem J6g:((Rows.policySeasonsRow.inPlace == Tryz.prog.inPlace 6):Bool) = true:=by kernel_rfl
theorem J5o:((Rows.policySeasonsRow.unfollowed == Tryz.prog.unfollowed 6):Bool) = true:=by kernel_rfl
theorem J5w:((Rows.policySeasonsRow.recurses == Tryz.prog.recurses 6):Bool) = true:=by kernel_rfl
theorem J5i:((Rows.policySeasonsRow.named == Tryz.prog.varsNamed 6):Bool) = true:=by kernel_rfl
theorem J5t:((Rows.policySeasonsRow.maps == (Tryz.f6.params.toList ++ Rows.policySeasonsSpec.plain.varTypes Tryz.prog).any (Tryz.prog.mapsRec ·)):Bool) = true:=by kernel_rfl
theorem J5s:((Rows.policySeasonsRow.ifaces == (Tryz.f6.params.toList ++ Rows.policySeasonsSpec.plain.varTypes Tryz.prog).any (Tryz.prog.ifacesRec ·)):Bool) = true:=by kernel_rfl
theorem J5r:((Rows.policySeasonsRow.mapsOut == Tryz.prog.mapsAmong Tryz.f6.resultTypes.toList):Bool) = true:=by kernel_rfl
theorem J6a:((Rows.policySeasonsRow.loops == (Tryz.f6.params.toList ++ Rows.policySeasonsSpec.plain.varTypes Tryz.prog).any (Tryz.prog.loopsFrom ·)):Bool) = true:=by kernel_rfl
theorem J5u:((Rows.policySeasonsRow.wideKeys == (Tryz.f6.params.toList ++ Rows.policySeasonsSpec.plain.varTypes Tryz.prog ++ Tryz.f6.resultTypes.toList).any (Tryz.prog.wideKeysFrom ·)):Bool) = true:=by kernel_rfl
theorem J5y:(Rows.policySeasonsSpec.vars.all (Tryz.prog.varReadable ·):Bool) = true:=by kernel_rfl
theorem J5x:(Tryz.f6.resultTypes.all (fun t=>Tryz.prog.readableRec t && decide (t < Tryz.prog.types.size)):Bool) = true:=by kernel_rfl
theorem J5z:((Rows.policySeasonsRow.ifacesOut == Tryz.f6.resultTypes.toList.any (Tryz.prog.ifacesRec ·)):Bool) = true:=by kernel_rfl
theorem J5n:((Rows.policySeasonsRow.loopsOut == Tryz.f6.resultTypes.toList.any (Tryz.prog.loopsFrom ·)):Bool) = true:=by kernel_rfl
theorem J6b:((Rows.policySeasonsRow.plainKeys == Tryz.prog.plainKeys):Bool) = true:=by kernel_rfl
theorem J5k:(Rows.policySeasonsRow.shortTexts.isNone:Bool) = true:=by kernel_rfl
theorem J5j:((Rows.policySeasonsRow.lifted == Tryz.prog.liftsFinal):Bool) = true:=by kernel_rfl
theorem J5l:((Tryz.prog.make == some Rows.policySeasonsRow.make):Bool) = true:=by kernel_rfl
theorem J5v:(Rows.policySeasonsRow.domain.isEmpty && (Rows.policySeasonsRow.kinds == []):Bool) = true:=by kernel_rfl
theorem J5m:((Rows.policySeasonsRow.pinned == Rows.policySeasonsRow.pinnedBy):Bool) = true:=by kernel_rfl
theorem J6c:((Rows.policySeasonsRow.veiled == (Tryz.f6.params.toList ++ Rows.policySeasonsSpec.plain.varTypes Tryz.prog ++ Tryz.f6.resultTypes.toList).any (Tryz.prog.veiledRec ·)):Bool) = true:=by kernel_rfl
theorem J5p:(Rows.policySeasonsRow.veiledFits Tryz.prog Tryz.f6.params.toList (Tryz.f6.params.toList ++ Rows.policySeasonsSpec.plain.varTypes Tryz.prog ++ Tryz.f6.resultTypes.toList):Bool) = true:=by kernel_rfl
theorem J4z:joinedFacts Tryz.pinned.checked.prog 6 Tryz.f6 Rows.policySeasonsSpec Rows.policySeasonsRow = true :=
 Z6d Tryz.prog 6 Tryz.f6 Rows.policySeasonsSpec Rows.policySeasonsRow J6i J0u J0q J6f J6h J6j Z9u J6k J0a J6g J5o J5w J5i J5t J5s J5r J6a J5u J5y J5x J5z J5n J6b J5k Z8q Z8b J5j J5l J5v J5m J6c J5p
theorem J5c:Rows.PolicySeasonsSaid :=
 OpenClaim.holds_of_wide 6 Tryz.f6 rfl rfl rfl rfl rfl rfl rfl ⟨rfl,rfl,rfl,rfl,rfl⟩ rfl rfl rfl rfl rfl J4t Tryz.func6 J4z
  J4w (by unfold Func.isWrapper; first | (rw [if_pos (by decide +kernel)]; kernel_rfl) | (rw [if_neg (by decide +kernel)]; exact ⟨rfl,rfl⟩))
  (fun os started H enc _=>J5a os started H enc)
theorem J4y:Rows.policySeasonsRow.wfByText (OpenSpec.ofChange Rows.policySeasonsSpec) = true:=by kernel_rfl
theorem J5h:Tryz.pinned.checked.prog.mainIs = some (Rows.policySeasonsCard.stood.harness.1,Rows.policySeasonsCard.stood.harness.2.toList):=by kernel_rfl
theorem J5e:Rows.policySeasonsCard.stood.looks = Tryz.pinned.checked.prog.looks []:=by kernel_rfl
theorem J5g:false = Rows.policySeasonsRow.goesBy Tryz.pinned.checked.prog:=by kernel_rfl
theorem J4x:([25].all fun u=>!Tryz.prog.wantsStandIn u) = true:=by kernel_rfl
theorem policySeasons_card:Rows.PolicySeasonsCardSaid :=
 Claim7.holds_tied_plain_at .later [] [.data,.data,.data,.widerDeep] true _ false J5c (fun _ h=>by cases h) J4y (fun _ h=>by cases h) policySeasons_row_tie rfl ⟨rfl,rfl⟩ J5h rfl
  (fun f fn hf hfn=>by
   obtain rfl:f = 6:=Option.some.inj (J4t.symm.trans hf) |>.symm
   obtain rfl:fn = Tryz.f6:=(Option.some.inj (Tryz.func6.symm.trans hfn)).symm;exact ⟨J5e,fun j t ht=>by
    have ht:#[25][j]? = some t:=Tryz.params6 ▸ ht;have hm:t ∈ [25]:=by simpa using Array.mem_of_getElem? ht
    exact (show Tryz.prog.wantsStandIn t = false by simpa using List.all_eq_true.1 J4x t hm)⟩)
  J5g
#print axioms policySeasons_card
end Go.Proofs.YthnobngcipaljaaGreatDoor
