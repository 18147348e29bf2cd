/- The law PolicyPlays: for every input the call returns true, and each argument reads afterwards as before: the row's statement, and its tied card. The listed tables of math/bits, strconv and policy are as the program's text lays them. -/
import Derived.Test.YthnobngcipaljaaGreatDoorPp35
import Derived.Test.YthnobngcipaljaaGreatDoorPl01
import Derived.Test.YthnobngcipaljaaGreatDoorPl02
import Derived.Test.YthnobngcipaljaaGreatDoorPl05
set_option maxRecDepth 1000000
set_option maxHeartbeats 64000000
set_option linter.unusedVariables false
set_option linter.unusedSimpArgs false
set_option linter.constructorNameAsVariable false
namespace Go.Proofs.YthnobngcipaljaaGreatDoor
open Go.ChangeShapes Go.WideShapes Go.ChangeAt Go.RowKit Go.Tw
theorem J2w (os:Os) (started:os.Started) (H:Type) (enc:TypeId × Value -> H) :
    ReturnsInHanded {} Tryz.checked os 8 .any (fun w args=>(Rows.policyPlaysSpec.pre enc Tryz.prog Tryz.f8 Rows.policyPlaysRow.domain false w args /\ laidMetH Tryz.prog J0p w) /\ sizedMet enc Tryz.prog Tryz.f8 (OpenSpec.ofChange Rows.policyPlaysSpec) false w args)
     (Rows.policyPlaysSpec.post enc Tryz.prog Tryz.f8 false true false false):=by
 refine returnsInHanded_of_change_and (C:=Tryz.checked) (X:=fun w _=>laidMetH Tryz.prog J0p w) (fun _ _ _ hh h=>h.of_heap hh) own started (by kernel_rfl) Tryz.func8
  (ChangeSpec.witness_shaped (enc:=enc) (C:=Tryz.checked) (os:=os) (X:=fun w _=>laidMetH Tryz.prog J0p w) false (World.laidAll Tryz.prog os J0p) #[.agg #[.int .i64 0,.slice none 0 0,.slice none 0 0],.agg #[.slice none 0 0],.int .i64 0] 8 (World.laidAll_os _ _ _)
   (World.shaped_of_ZipB (by kernel_rfl) (by kernel_rfl)) (by kernel_rfl) (by kernel_rfl) (by kernel_rfl)
   (by rw [MakeChecks.laidMetH_plain _ _ _ (by kernel_rfl)]; exact laidMet_laidAll _ (by kernel_rfl) (by kernel_rfl))) ?_
 intro W base args ds gs before hval0 hW hc hsz0 hL _;have hval:∀ (j:Nat) t v,Tryz.f8.params[j]?=some t -> args[j]?=some v -> Value.okWide Tryz.prog W .any base t v:=hval0;have hsz:(DataW.weightsEach Tryz.prog (Tryz.f8.params.toList ++ Rows.policyPlaysSpec.plain.varTypes Tryz.prog) (ds ++ gs)).all (· <= reachBytes)=true:=hsz0;have hW':=hW;obtain ⟨p,q,hA0,hV,rfl,hfz,hnd⟩:=hW;have hA:DataW.TrodAll enc Tryz.prog W 0 (fun _=>true) true Tryz.f8.params.toList args.toList ds p:=hA0;rw [Tryz.params8] at hA hval hsz;obtain ⟨v0,vs0,d0,ds0,p0,q0,hargs,rfl,rfl,h0,r0⟩:=trodAll_cons hA;obtain ⟨v1,vs1,d1,ds1,p1,q1,rfl,rfl,rfl,h1,r1⟩:=trodAll_cons r0;obtain ⟨v2,vs2,d2,ds2,p2,q2,rfl,rfl,rfl,h2,r2⟩:=trodAll_cons r1;obtain ⟨rfl,rfl,rfl⟩:=trodAll_nil r2;obtain rfl:args=#[v0,v1,v2]:=by cases args; simp_all
 obtain ⟨rfl,rfl⟩:=trodVars_none hV;have hfit:∀ x ∈ DataW.weightsEach Tryz.prog [25,47,3] [d0,d1,d2],x <= 140737488351232:=fun x hx=>by
  have:=List.all_eq_true.1 (show (DataW.weightsEach Tryz.prog [25,47,3] [d0,d1,d2]).all (· <= reachBytes)=true from hsz) x hx
  exact Nat.le_trans (of_decide_eq_true this) (by decide)
 obtain ⟨f0,g0⟩:=Q4u hfit;obtain ⟨f1,g1⟩:=Q4u g0;obtain ⟨f2,g2⟩:=Q4u g1;have k0:=h0;have lt0:∀ x ∈ p0,x.block < W.heap.size:=by obtain ⟨m,hm⟩:=k0; exact DataW.trod_lt m _ _ _ hm
 obtain ⟨t0,HI0⟩:=Z4e (hval 0 25 v0 rfl rfl) h0 f0;have k1:=h1;have lt1:∀ x ∈ p1,x.block < W.heap.size:=by obtain ⟨m,hm⟩:=k1; exact DataW.trod_lt m _ _ _ hm
 obtain ⟨t1,HI1⟩:=J4p (hval 1 47 v1 rfl rfl) h1 f1;have k2:=h2;have lt2:∀ x ∈ p2,x.block < W.heap.size:=by obtain ⟨m,hm⟩:=k2; exact DataW.trod_lt m _ _ _ hm
 obtain ⟨z2,rfl,rfl,rfl,wz2⟩:=open_int Tryz.underlying3 (hval 2 3 v2 rfl rfl) h2;have hcall:Calls Tryz.prog 8 #[v0,v1,.int .i64 z2] W fun e W'=>e=.returned (.bool true) /\ Ext W W':=J3o _ _ _ _ _ _ HI0 HI1 (Z5z hL);clear hA0 hval0 hsz0;refine hcall.mono fun e W' ⟨he,bel⟩=>?_;subst he;exact ⟨_,rfl,_,_,_,[],_,[],hW',trodAll_mk1 (shut_bool Tryz.underlying4 _),(trodAll_cons_mk (Below.trod laidOut (by kernel_rfl) (of_decide_eq_true (by kernel_rfl)) k0 bel lt0) (trodAll_cons_mk (Below.trod laidOut (by kernel_rfl) (of_decide_eq_true (by kernel_rfl)) k1 bel lt1) (trodAll_cons_mk (shut_int Tryz.underlying3 wz2) trodAll_mk0))),rfl,bel.frame _,fun h=>by cases h⟩
theorem J2o:Tryz.pinned.checked.prog.funcNamed Rows.policyPlaysRow.func=some 8:=by kernel_rfl
theorem J2s:Tryz.f8.isInstance Tryz.pinned.checked.prog Rows.policyPlaysRow.origin Rows.policyPlaysRow.targs:=of_decide_eq_true (by kernel_rfl)
theorem J4o:(Rows.policyPlaysRow.wf (OpenSpec.ofChange Rows.policyPlaysSpec):Bool)=true:=by kernel_rfl
theorem J4q:(Tryz.f8.params.all (Tryz.prog.readableRec ·):Bool)=true:=by kernel_rfl
theorem J4t:(namedTie Tryz.prog Rows.policyPlaysRow.named Rows.policyPlaysSpec.vars:Bool)=true:=by kernel_rfl
theorem J4u:((Rows.policyPlaysRow.stops == []):Bool)=true:=by kernel_rfl
theorem J4v:((Rows.policyPlaysRow.knobs == []):Bool)=true:=by kernel_rfl
theorem J4s:((Rows.policyPlaysRow.inPlace == Tryz.prog.inPlace 8):Bool)=true:=by kernel_rfl
theorem J3u:((Rows.policyPlaysRow.unfollowed == Tryz.prog.unfollowed 8):Bool)=true:=by kernel_rfl
theorem J4j:((Rows.policyPlaysRow.recurses == Tryz.prog.recurses 8):Bool)=true:=by kernel_rfl
theorem J4l:((Rows.policyPlaysRow.named == Tryz.prog.varsNamed 8):Bool)=true:=by kernel_rfl
theorem J4a:((Rows.policyPlaysRow.maps == (Tryz.f8.params.toList ++ Rows.policyPlaysSpec.plain.varTypes Tryz.prog).any (Tryz.prog.mapsRec ·)):Bool)=true:=by kernel_rfl
theorem J4d:((Rows.policyPlaysRow.ifaces == (Tryz.f8.params.toList ++ Rows.policyPlaysSpec.plain.varTypes Tryz.prog).any (Tryz.prog.ifacesRec ·)):Bool)=true:=by kernel_rfl
theorem J3z:((Rows.policyPlaysRow.mapsOut == Tryz.prog.mapsAmong Tryz.f8.resultTypes.toList):Bool)=true:=by kernel_rfl
theorem J3l:((Rows.policyPlaysRow.loops == (Tryz.f8.params.toList ++ Rows.policyPlaysSpec.plain.varTypes Tryz.prog).any (Tryz.prog.loopsFrom ·)):Bool)=true:=by kernel_rfl
theorem J3w:((Rows.policyPlaysRow.wideKeys == (Tryz.f8.params.toList ++ Rows.policyPlaysSpec.plain.varTypes Tryz.prog ++ Tryz.f8.resultTypes.toList).any (Tryz.prog.wideKeysFrom ·)):Bool)=true:=by kernel_rfl
theorem J3s:(Rows.policyPlaysSpec.vars.all (Tryz.prog.varReadable ·):Bool)=true:=by kernel_rfl
theorem J4e:(Tryz.f8.resultTypes.all (fun t=>Tryz.prog.readableRec t && decide (t < Tryz.prog.types.size)):Bool)=true:=by kernel_rfl
theorem J4i:((Rows.policyPlaysRow.ifacesOut == Tryz.f8.resultTypes.toList.any (Tryz.prog.ifacesRec ·)):Bool)=true:=by kernel_rfl
theorem J3j:((Rows.policyPlaysRow.loopsOut == Tryz.f8.resultTypes.toList.any (Tryz.prog.loopsFrom ·)):Bool)=true:=by kernel_rfl
theorem J4b:((Rows.policyPlaysRow.plainKeys == Tryz.prog.plainKeys):Bool)=true:=by kernel_rfl
theorem J3q:(Rows.policyPlaysRow.shortTexts.isNone:Bool)=true:=by kernel_rfl
theorem J4n:((Rows.policyPlaysRow.lifted == Tryz.prog.liftsFinal):Bool)=true:=by kernel_rfl
theorem J4f:((Tryz.prog.make == some Rows.policyPlaysRow.make):Bool)=true:=by kernel_rfl
theorem J3i:(Rows.policyPlaysRow.domain.isEmpty && (Rows.policyPlaysRow.kinds == []):Bool)=true:=by kernel_rfl
theorem J3v:((Rows.policyPlaysRow.pinned == Rows.policyPlaysRow.pinnedBy):Bool)=true:=by kernel_rfl
theorem J3k:((Rows.policyPlaysRow.veiled == (Tryz.f8.params.toList ++ Rows.policyPlaysSpec.plain.varTypes Tryz.prog ++ Tryz.f8.resultTypes.toList).any (Tryz.prog.veiledRec ·)):Bool)=true:=by kernel_rfl
theorem J4c:(Rows.policyPlaysRow.veiledFits Tryz.prog Tryz.f8.params.toList (Tryz.f8.params.toList ++ Rows.policyPlaysSpec.plain.varTypes Tryz.prog ++ Tryz.f8.resultTypes.toList):Bool)=true:=by kernel_rfl
theorem J2y:joinedFacts Tryz.pinned.checked.prog 8 Tryz.f8 Rows.policyPlaysSpec Rows.policyPlaysRow=true :=
 J0j Tryz.prog 8 Tryz.f8 Rows.policyPlaysSpec Rows.policyPlaysRow J4o J1t J1k J4q J4t J4u J1e J4v J1c J4s J3u J4j J4l J4a J4d J3z J3l J3w J3s J4e J4i J3j J4b J3q J0v J0x J4n J4f J3i J3v J3k J4c
theorem J2z:Rows.PolicyPlaysSaid :=
 OpenClaim.holds_of_wide 8 Tryz.f8 rfl rfl rfl rfl rfl rfl rfl ⟨rfl,rfl,rfl,rfl,rfl⟩ rfl rfl rfl rfl rfl J2o Tryz.func8 J2y
  J2s (by unfold Func.isWrapper; first | (rw [if_pos (by decide +kernel)]; kernel_rfl) | (rw [if_neg (by decide +kernel)]; exact ⟨rfl,rfl⟩))
  (fun os started H enc _=>J2w os started H enc)
theorem J2v:Rows.policyPlaysRow.wfByText (OpenSpec.ofChange Rows.policyPlaysSpec)=true:=by kernel_rfl
theorem J3e:Tryz.pinned.checked.prog.mainIs=some (Rows.policyPlaysCard.stood.harness.1,Rows.policyPlaysCard.stood.harness.2.toList):=by kernel_rfl
theorem J3a:Rows.policyPlaysCard.stood.looks=Tryz.pinned.checked.prog.looks []:=by kernel_rfl
theorem J3g:false=Rows.policyPlaysRow.goesBy Tryz.pinned.checked.prog:=by kernel_rfl
theorem J2u:([25,47,3].all fun u=>!Tryz.prog.wantsStandIn u)=true:=by kernel_rfl
theorem policyPlays_card:Rows.PolicyPlaysCardSaid :=
 Claim7.holds_tied_plain_at .later [] [.data,.data,.data,.widerDeep] true _ false J2z (fun _ h=>by cases h) J2v (fun _ h=>by cases h) policyPlays_row_tie rfl ⟨rfl,rfl⟩ J3e rfl
  (fun f fn hf hfn=>by
   obtain rfl:f=8:=Option.some.inj (J2o.symm.trans hf) |>.symm
   obtain rfl:fn=Tryz.f8:=(Option.some.inj (Tryz.func8.symm.trans hfn)).symm;exact ⟨J3a,fun j t ht=>by
    have ht:#[25,47,3][j]?=some t:=Tryz.params8 ▸ ht;have hm:t ∈ [25,47,3]:=by simpa using Array.mem_of_getElem? ht
    exact (show Tryz.prog.wantsStandIn t=false by simpa using List.all_eq_true.1 J2u t hm)⟩)
  J3g
#print axioms policyPlays_card
end Go.Proofs.YthnobngcipaljaaGreatDoor
