/- The law PolicyBest: for every input the call returns true, and each argument reads afterwards as before: the row's statement, and its tied card. The listed tables of math/bits, strconv and policy are as the program's text lays them. -/
import Derived.Test.YthnobngcipaljaaGreatDoorPp35
import Derived.Test.YthnobngcipaljaaGreatDoorPb01
import Derived.Test.YthnobngcipaljaaGreatDoorPb05
set_option maxRecDepth 1000000
set_option maxHeartbeats 64000000
set_option linter.unusedVariables false
set_option linter.unusedSimpArgs false
set_option linter.constructorNameAsVariable false
namespace Go.Proofs.YthnobngcipaljaaGreatDoor
open Go.ChangeShapes Go.WideShapes Go.ChangeAt Go.RowKit Go.Tw
theorem J3f (os:Os) (started:os.Started) (H:Type) (enc:TypeId × Value -> H) :
    ReturnsInHanded {} Tryz.checked os 4 .any (fun w args=>(Rows.policyBestSpec.pre enc Tryz.prog Tryz.f4 Rows.policyBestRow.domain false w args /\ laidMetH Tryz.prog J0p w) /\ sizedMet enc Tryz.prog Tryz.f4 (OpenSpec.ofChange Rows.policyBestSpec) false w args)
     (Rows.policyBestSpec.post enc Tryz.prog Tryz.f4 false true false false):=by
 refine returnsInHanded_of_change_and (C:=Tryz.checked) (X:=fun w _=>laidMetH Tryz.prog J0p w) (fun _ _ _ hh h=>h.of_heap hh) own started (by kernel_rfl) Tryz.func4
  (ChangeSpec.witness_shaped (enc:=enc) (C:=Tryz.checked) (os:=os) (X:=fun w _=>laidMetH Tryz.prog J0p w) false (World.laidAll Tryz.prog os J0p) #[.agg #[.int .i64 0,.slice none 0 0,.slice none 0 0],.agg #[.int .i64 0,.int .i64 0,.int .i64 0,.int .i64 0],.int .i64 0] 8 (World.laidAll_os _ _ _)
   (World.shaped_of_ZipB (by kernel_rfl) (by kernel_rfl)) (by kernel_rfl) (by kernel_rfl) (by kernel_rfl)
   (by rw [MakeChecks.laidMetH_plain _ _ _ (by kernel_rfl)]; exact laidMet_laidAll _ (by kernel_rfl) (by kernel_rfl))) ?_
 intro W base args ds gs before hval0 hW hc hsz0 hL _;have hval:∀ (j:Nat) t v,Tryz.f4.params[j]?=some t -> args[j]?=some v -> Value.okWide Tryz.prog W .any base t v:=hval0;have hsz:(DataW.weightsEach Tryz.prog (Tryz.f4.params.toList ++ Rows.policyBestSpec.plain.varTypes Tryz.prog) (ds ++ gs)).all (· <= reachBytes)=true:=hsz0;have hW':=hW;obtain ⟨p,q,hA0,hV,rfl,hfz,hnd⟩:=hW;have hA:DataW.TrodAll enc Tryz.prog W 0 (fun _=>true) true Tryz.f4.params.toList args.toList ds p:=hA0;rw [Tryz.params4] at hA hval hsz;obtain ⟨v0,vs0,d0,ds0,p0,q0,hargs,rfl,rfl,h0,r0⟩:=trodAll_cons hA;obtain ⟨v1,vs1,d1,ds1,p1,q1,rfl,rfl,rfl,h1,r1⟩:=trodAll_cons r0;obtain ⟨v2,vs2,d2,ds2,p2,q2,rfl,rfl,rfl,h2,r2⟩:=trodAll_cons r1;obtain ⟨rfl,rfl,rfl⟩:=trodAll_nil r2;obtain rfl:args=#[v0,v1,v2]:=by cases args; simp_all
 obtain ⟨rfl,rfl⟩:=trodVars_none hV;have hfit:∀ x ∈ DataW.weightsEach Tryz.prog [25,54,3] [d0,d1,d2],x <= 140737488351232:=fun x hx=>by
  have:=List.all_eq_true.1 (show (DataW.weightsEach Tryz.prog [25,54,3] [d0,d1,d2]).all (· <= reachBytes)=true from hsz) x hx
  exact Nat.le_trans (of_decide_eq_true this) (by decide)
 obtain ⟨f0,g0⟩:=Q4u hfit;obtain ⟨f1,g1⟩:=Q4u g0;obtain ⟨f2,g2⟩:=Q4u g1;have k0:=h0;have lt0:∀ x ∈ p0,x.block < W.heap.size:=by obtain ⟨m,hm⟩:=k0; exact DataW.trod_lt m _ _ _ hm
 obtain ⟨t0,HI0⟩:=Z4e (hval 0 25 v0 rfl rfl) h0 f0;have k1:=h1;have lt1:∀ x ∈ p1,x.block < W.heap.size:=by obtain ⟨m,hm⟩:=k1; exact DataW.trod_lt m _ _ _ hm
 obtain ⟨ca1,cb1,cc1,ce1,rfl,hb1⟩:=J5n (hval 1 54 v1 rfl rfl) h1;have k2:=h2;have lt2:∀ x ∈ p2,x.block < W.heap.size:=by obtain ⟨m,hm⟩:=k2; exact DataW.trod_lt m _ _ _ hm
 obtain ⟨z2,rfl,rfl,rfl,wz2⟩:=open_int Tryz.underlying3 (hval 2 3 v2 rfl rfl) h2;have hcall:Calls Tryz.prog 4 #[v0,.agg #[.int .i64 ca1,.int .i64 cb1,.int .i64 cc1,.int .i64 ce1],.int .i64 z2] W fun e W'=>e=.returned (.bool true) /\ Ext W W':=J4k _ _ _ _ _ _ _ _ HI0 hb1 (Z5z hL);clear hA0 hval0 hsz0;refine hcall.mono fun e W' ⟨he,bel⟩=>?_;subst he;exact ⟨_,rfl,_,_,_,[],_,[],hW',trodAll_mk1 (shut_bool Tryz.underlying4 _),(trodAll_cons_mk (Below.trod laidOut (by kernel_rfl) (of_decide_eq_true (by kernel_rfl)) k0 bel lt0) (trodAll_cons_mk (Below.trod laidOut (by kernel_rfl) (of_decide_eq_true (by kernel_rfl)) k1 bel lt1) (trodAll_cons_mk (shut_int Tryz.underlying3 wz2) trodAll_mk0))),rfl,bel.frame _,fun h=>by cases h⟩
theorem J2t:Tryz.pinned.checked.prog.funcNamed Rows.policyBestRow.func=some 4:=by kernel_rfl
theorem J2w:Tryz.f4.isInstance Tryz.pinned.checked.prog Rows.policyBestRow.origin Rows.policyBestRow.targs:=of_decide_eq_true (by kernel_rfl)
theorem J5d:(Rows.policyBestRow.wf (OpenSpec.ofChange Rows.policyBestSpec):Bool)=true:=by kernel_rfl
theorem J5f:(Tryz.f4.params.all (Tryz.prog.readableRec ·):Bool)=true:=by kernel_rfl
theorem J5a:(namedTie Tryz.prog Rows.policyBestRow.named Rows.policyBestSpec.vars:Bool)=true:=by kernel_rfl
theorem J5i:((Rows.policyBestRow.stops == []):Bool)=true:=by kernel_rfl
theorem J5e:((Rows.policyBestRow.knobs == []):Bool)=true:=by kernel_rfl
theorem J5b:((Rows.policyBestRow.inPlace == Tryz.prog.inPlace 4):Bool)=true:=by kernel_rfl
theorem J4j:((Rows.policyBestRow.unfollowed == Tryz.prog.unfollowed 4):Bool)=true:=by kernel_rfl
theorem J4q:((Rows.policyBestRow.recurses == Tryz.prog.recurses 4):Bool)=true:=by kernel_rfl
theorem J4i:((Rows.policyBestRow.named == Tryz.prog.varsNamed 4):Bool)=true:=by kernel_rfl
theorem J4g:((Rows.policyBestRow.maps == (Tryz.f4.params.toList ++ Rows.policyBestSpec.plain.varTypes Tryz.prog).any (Tryz.prog.mapsRec ·)):Bool)=true:=by kernel_rfl
theorem J4c:((Rows.policyBestRow.ifaces == (Tryz.f4.params.toList ++ Rows.policyBestSpec.plain.varTypes Tryz.prog).any (Tryz.prog.ifacesRec ·)):Bool)=true:=by kernel_rfl
theorem J4r:((Rows.policyBestRow.mapsOut == Tryz.prog.mapsAmong Tryz.f4.resultTypes.toList):Bool)=true:=by kernel_rfl
theorem J4a:((Rows.policyBestRow.loops == (Tryz.f4.params.toList ++ Rows.policyBestSpec.plain.varTypes Tryz.prog).any (Tryz.prog.loopsFrom ·)):Bool)=true:=by kernel_rfl
theorem J4l:((Rows.policyBestRow.wideKeys == (Tryz.f4.params.toList ++ Rows.policyBestSpec.plain.varTypes Tryz.prog ++ Tryz.f4.resultTypes.toList).any (Tryz.prog.wideKeysFrom ·)):Bool)=true:=by kernel_rfl
theorem J4s:(Rows.policyBestSpec.vars.all (Tryz.prog.varReadable ·):Bool)=true:=by kernel_rfl
theorem J4b:(Tryz.f4.resultTypes.all (fun t=>Tryz.prog.readableRec t && decide (t < Tryz.prog.types.size)):Bool)=true:=by kernel_rfl
theorem J4d:((Rows.policyBestRow.ifacesOut == Tryz.f4.resultTypes.toList.any (Tryz.prog.ifacesRec ·)):Bool)=true:=by kernel_rfl
theorem J4u:((Rows.policyBestRow.loopsOut == Tryz.f4.resultTypes.toList.any (Tryz.prog.loopsFrom ·)):Bool)=true:=by kernel_rfl
theorem J4f:((Rows.policyBestRow.plainKeys == Tryz.prog.plainKeys):Bool)=true:=by kernel_rfl
theorem J4o:(Rows.policyBestRow.shortTexts.isNone:Bool)=true:=by kernel_rfl
theorem J4t:((Rows.policyBestRow.lifted == Tryz.prog.liftsFinal):Bool)=true:=by kernel_rfl
theorem J4p:((Tryz.prog.make == some Rows.policyBestRow.make):Bool)=true:=by kernel_rfl
theorem J4n:(Rows.policyBestRow.domain.isEmpty && (Rows.policyBestRow.kinds == []):Bool)=true:=by kernel_rfl
theorem J4e:((Rows.policyBestRow.pinned == Rows.policyBestRow.pinnedBy):Bool)=true:=by kernel_rfl
theorem J3z:((Rows.policyBestRow.veiled == (Tryz.f4.params.toList ++ Rows.policyBestSpec.plain.varTypes Tryz.prog ++ Tryz.f4.resultTypes.toList).any (Tryz.prog.veiledRec ·)):Bool)=true:=by kernel_rfl
theorem J4m:(Rows.policyBestRow.veiledFits Tryz.prog Tryz.f4.params.toList (Tryz.f4.params.toList ++ Rows.policyBestSpec.plain.varTypes Tryz.prog ++ Tryz.f4.resultTypes.toList):Bool)=true:=by kernel_rfl
theorem J3d:joinedFacts Tryz.pinned.checked.prog 4 Tryz.f4 Rows.policyBestSpec Rows.policyBestRow=true :=
 J0j Tryz.prog 4 Tryz.f4 Rows.policyBestSpec Rows.policyBestRow J5d J1t J1k J5f J5a J5i J1e J5e J1c J5b J4j J4q J4i J4g J4c J4r J4a J4l J4s J4b J4d J4u J4f J4o J0v J0x J4t J4p J4n J4e J3z J4m
theorem J3h:Rows.PolicyBestSaid :=
 OpenClaim.holds_of_wide 4 Tryz.f4 rfl rfl rfl rfl rfl rfl rfl ⟨rfl,rfl,rfl,rfl,rfl⟩ rfl rfl rfl rfl rfl J2t Tryz.func4 J3d
  J2w (by unfold Func.isWrapper; first | (rw [if_pos (by decide +kernel)]; kernel_rfl) | (rw [if_neg (by decide +kernel)]; exact ⟨rfl,rfl⟩))
  (fun os started H enc _=>J3f os started H enc)
theorem J3e:Rows.policyBestRow.wfByText (OpenSpec.ofChange Rows.policyBestSpec)=true:=by kernel_rfl
theorem J3n:Tryz.pinned.checked.prog.mainIs=some (Rows.policyBestCard.stood.harness.1,Rows.policyBestCard.stood.harness.2.toList):=by kernel_rfl
theorem J3i:Rows.policyBestCard.stood.looks=Tryz.pinned.checked.prog.looks []:=by kernel_rfl
theorem J3m:false=Rows.policyBestRow.goesBy Tryz.pinned.checked.prog:=by kernel_rfl
theorem J2z:([25,54,3].all fun u=>!Tryz.prog.wantsStandIn u)=true:=by kernel_rfl
theorem policyBest_card:Rows.PolicyBestCardSaid :=
 Claim7.holds_tied_plain_at .later [] [.data,.data,.data,.widerDeep] true _ false J3h (fun _ h=>by cases h) J3e (fun _ h=>by cases h) policyBest_row_tie rfl ⟨rfl,rfl⟩ J3n rfl
  (fun f fn hf hfn=>by
   obtain rfl:f=4:=Option.some.inj (J2t.symm.trans hf) |>.symm
   obtain rfl:fn=Tryz.f4:=(Option.some.inj (Tryz.func4.symm.trans hfn)).symm;exact ⟨J3i,fun j t ht=>by
    have ht:#[25,54,3][j]?=some t:=Tryz.params4 ▸ ht;have hm:t ∈ [25,54,3]:=by simpa using Array.mem_of_getElem? ht
    exact (show Tryz.prog.wantsStandIn t=false by simpa using List.all_eq_true.1 J2z t hm)⟩)
  J3m
#print axioms policyBest_card
end Go.Proofs.YthnobngcipaljaaGreatDoor
