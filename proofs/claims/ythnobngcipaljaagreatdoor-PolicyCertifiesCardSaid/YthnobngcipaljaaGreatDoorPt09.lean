/- The law PolicyCertifies: for every input the call returns true, and each argument reads afterwards as before: the row's statement, and its tied card. The listed tables of math/bits, strconv and policy are as the program's text lays them. -/
import Derived.Test.YthnobngcipaljaaGreatDoorPp35
import Derived.Test.YthnobngcipaljaaGreatDoorPt01
import Derived.Test.YthnobngcipaljaaGreatDoorPt08
set_option maxRecDepth 1000000
set_option maxHeartbeats 64000000
set_option linter.unusedVariables false
set_option linter.unusedSimpArgs false
set_option linter.constructorNameAsVariable false
namespace Go.Proofs.YthnobngcipaljaaGreatDoor
open Go.ChangeShapes Go.WideShapes Go.ChangeAt Go.RowKit Go.Tw
theorem J2z (os:Os) (started:os.Started) (H:Type) (enc:TypeId × Value -> H) :
    ReturnsInHanded {} Tryz.checked os 12 .any (fun w args=>(Rows.policyCertifiesSpec.pre enc Tryz.prog Tryz.f12 Rows.policyCertifiesRow.domain false w args /\ laidMetH Tryz.prog J0p w) /\ sizedMet enc Tryz.prog Tryz.f12 (OpenSpec.ofChange Rows.policyCertifiesSpec) false w args)
     (Rows.policyCertifiesSpec.post enc Tryz.prog Tryz.f12 false true false false):=by
 refine returnsInHanded_of_change_and (C:=Tryz.checked) (X:=fun w _=>laidMetH Tryz.prog J0p w) (fun _ _ _ hh h=>h.of_heap hh) own started (by kernel_rfl) Tryz.func12
  (ChangeSpec.witness_shaped (enc:=enc) (C:=Tryz.checked) (os:=os) (X:=fun w _=>laidMetH Tryz.prog J0p w) false (World.laidAll Tryz.prog os J0p) #[.agg #[.int .i64 0,.slice none 0 0,.slice none 0 0],.int .i64 0] 8 (World.laidAll_os _ _ _)
   (World.shaped_of_ZipB (by kernel_rfl) (by kernel_rfl)) (by kernel_rfl) (by kernel_rfl) (by kernel_rfl)
   (by rw [MakeChecks.laidMetH_plain _ _ _ (by kernel_rfl)]; exact laidMet_laidAll _ (by kernel_rfl) (by kernel_rfl))) ?_
 intro W base args ds gs before hval0 hW hc hsz0 hL _;have hval:∀ (j:Nat) t v,Tryz.f12.params[j]?=some t -> args[j]?=some v -> Value.okWide Tryz.prog W .any base t v:=hval0;have hsz:(DataW.weightsEach Tryz.prog (Tryz.f12.params.toList ++ Rows.policyCertifiesSpec.plain.varTypes Tryz.prog) (ds ++ gs)).all (· <= reachBytes)=true:=hsz0;have hW':=hW;obtain ⟨p,q,hA0,hV,rfl,hfz,hnd⟩:=hW;have hA:DataW.TrodAll enc Tryz.prog W 0 (fun _=>true) true Tryz.f12.params.toList args.toList ds p:=hA0;rw [Tryz.params12] at hA hval hsz;obtain ⟨v0,vs0,d0,ds0,p0,q0,hargs,rfl,rfl,h0,r0⟩:=trodAll_cons hA;obtain ⟨v1,vs1,d1,ds1,p1,q1,rfl,rfl,rfl,h1,r1⟩:=trodAll_cons r0;obtain ⟨rfl,rfl,rfl⟩:=trodAll_nil r1;obtain rfl:args=#[v0,v1]:=by cases args; simp_all
 obtain ⟨rfl,rfl⟩:=trodVars_none hV;have hfit:∀ x ∈ DataW.weightsEach Tryz.prog [25,3] [d0,d1],x <= 140737488351232:=fun x hx=>by
  have:=List.all_eq_true.1 (show (DataW.weightsEach Tryz.prog [25,3] [d0,d1]).all (· <= reachBytes)=true from hsz) x hx
  exact Nat.le_trans (of_decide_eq_true this) (by decide)
 obtain ⟨f0,g0⟩:=Q4u hfit;obtain ⟨f1,g1⟩:=Q4u g0;have k0:=h0;have lt0:∀ x ∈ p0,x.block < W.heap.size:=by obtain ⟨m,hm⟩:=k0; exact DataW.trod_lt m _ _ _ hm
 obtain ⟨t0,HI0⟩:=Z4e (hval 0 25 v0 rfl rfl) h0 f0;have k1:=h1;have lt1:∀ x ∈ p1,x.block < W.heap.size:=by obtain ⟨m,hm⟩:=k1; exact DataW.trod_lt m _ _ _ hm
 obtain ⟨z1,rfl,rfl,rfl,wz1⟩:=open_int Tryz.underlying3 (hval 1 3 v1 rfl rfl) h1;have hcall:Calls Tryz.prog 12 #[v0,.int .i64 z1] W fun e W'=>e=.returned (.bool true) /\ Ext W W':=J3m _ _ _ _ HI0 (Z5z hL);clear hA0 hval0 hsz0;refine hcall.mono fun e W' ⟨he,bel⟩=>?_;subst he;exact ⟨_,rfl,_,_,_,[],_,[],hW',trodAll_mk1 (shut_bool Tryz.underlying4 _),(trodAll_cons_mk (Below.trod laidOut (by kernel_rfl) (of_decide_eq_true (by kernel_rfl)) k0 bel lt0) (trodAll_cons_mk (shut_int Tryz.underlying3 wz1) trodAll_mk0)),rfl,bel.frame _,fun h=>by cases h⟩
theorem J2r:Tryz.pinned.checked.prog.funcNamed Rows.policyCertifiesRow.func=some 12:=by kernel_rfl
theorem J2u:Tryz.f12.isInstance Tryz.pinned.checked.prog Rows.policyCertifiesRow.origin Rows.policyCertifiesRow.targs:=of_decide_eq_true (by kernel_rfl)
theorem J4e:(Rows.policyCertifiesRow.wf (OpenSpec.ofChange Rows.policyCertifiesSpec):Bool)=true:=by kernel_rfl
theorem J4g:(Tryz.f12.params.all (Tryz.prog.readableRec ·):Bool)=true:=by kernel_rfl
theorem J4l:(namedTie Tryz.prog Rows.policyCertifiesRow.named Rows.policyCertifiesSpec.vars:Bool)=true:=by kernel_rfl
theorem J4i:((Rows.policyCertifiesRow.stops == []):Bool)=true:=by kernel_rfl
theorem J4n:((Rows.policyCertifiesRow.knobs == []):Bool)=true:=by kernel_rfl
theorem J4f:((Rows.policyCertifiesRow.inPlace == Tryz.prog.inPlace 12):Bool)=true:=by kernel_rfl
theorem J4d:((Rows.policyCertifiesRow.unfollowed == Tryz.prog.unfollowed 12):Bool)=true:=by kernel_rfl
theorem J3v:((Rows.policyCertifiesRow.recurses == Tryz.prog.recurses 12):Bool)=true:=by kernel_rfl
theorem J3z:((Rows.policyCertifiesRow.named == Tryz.prog.varsNamed 12):Bool)=true:=by kernel_rfl
theorem J3w:((Rows.policyCertifiesRow.maps == (Tryz.f12.params.toList ++ Rows.policyCertifiesSpec.plain.varTypes Tryz.prog).any (Tryz.prog.mapsRec ·)):Bool)=true:=by kernel_rfl
theorem J4c:((Rows.policyCertifiesRow.ifaces == (Tryz.f12.params.toList ++ Rows.policyCertifiesSpec.plain.varTypes Tryz.prog).any (Tryz.prog.ifacesRec ·)):Bool)=true:=by kernel_rfl
theorem J3r:((Rows.policyCertifiesRow.mapsOut == Tryz.prog.mapsAmong Tryz.f12.resultTypes.toList):Bool)=true:=by kernel_rfl
theorem J3t:((Rows.policyCertifiesRow.loops == (Tryz.f12.params.toList ++ Rows.policyCertifiesSpec.plain.varTypes Tryz.prog).any (Tryz.prog.loopsFrom ·)):Bool)=true:=by kernel_rfl
theorem J3x:((Rows.policyCertifiesRow.wideKeys == (Tryz.f12.params.toList ++ Rows.policyCertifiesSpec.plain.varTypes Tryz.prog ++ Tryz.f12.resultTypes.toList).any (Tryz.prog.wideKeysFrom ·)):Bool)=true:=by kernel_rfl
theorem J3n:(Rows.policyCertifiesSpec.vars.all (Tryz.prog.varReadable ·):Bool)=true:=by kernel_rfl
theorem J3k:(Tryz.f12.resultTypes.all (fun t=>Tryz.prog.readableRec t && decide (t < Tryz.prog.types.size)):Bool)=true:=by kernel_rfl
theorem J3y:((Rows.policyCertifiesRow.ifacesOut == Tryz.f12.resultTypes.toList.any (Tryz.prog.ifacesRec ·)):Bool)=true:=by kernel_rfl
theorem J3o:((Rows.policyCertifiesRow.loopsOut == Tryz.f12.resultTypes.toList.any (Tryz.prog.loopsFrom ·)):Bool)=true:=by kernel_rfl
theorem J3j:((Rows.policyCertifiesRow.plainKeys == Tryz.prog.plainKeys):Bool)=true:=by kernel_rfl
theorem J3q:(Rows.policyCertifiesRow.shortTexts.isNone:Bool)=true:=by kernel_rfl
theorem J3s:((Rows.policyCertifiesRow.lifted == Tryz.prog.liftsFinal):Bool)=true:=by kernel_rfl
theorem J3l:((Tryz.prog.make == some Rows.policyCertifiesRow.make):Bool)=true:=by kernel_rfl
theorem J4b:(Rows.policyCertifiesRow.domain.isEmpty && (Rows.policyCertifiesRow.kinds == []):Bool)=true:=by kernel_rfl
theorem J3u:((Rows.policyCertifiesRow.pinned == Rows.policyCertifiesRow.pinnedBy):Bool)=true:=by kernel_rfl
theorem J4a:((Rows.policyCertifiesRow.veiled == (Tryz.f12.params.toList ++ Rows.policyCertifiesSpec.plain.varTypes Tryz.prog ++ Tryz.f12.resultTypes.toList).any (Tryz.prog.veiledRec ·)):Bool)=true:=by kernel_rfl
theorem J3p:(Rows.policyCertifiesRow.veiledFits Tryz.prog Tryz.f12.params.toList (Tryz.f12.params.toList ++ Rows.policyCertifiesSpec.plain.varTypes Tryz.prog ++ Tryz.f12.resultTypes.toList):Bool)=true:=by kernel_rfl
theorem J2y:joinedFacts Tryz.pinned.checked.prog 12 Tryz.f12 Rows.policyCertifiesSpec Rows.policyCertifiesRow=true :=
 J0j Tryz.prog 12 Tryz.f12 Rows.policyCertifiesSpec Rows.policyCertifiesRow J4e J1t J1k J4g J4l J4i J1e J4n J1c J4f J4d J3v J3z J3w J4c J3r J3t J3x J3n J3k J3y J3o J3j J3q J0v J0x J3s J3l J4b J3u J4a J3p
theorem J3b:Rows.PolicyCertifiesSaid :=
 OpenClaim.holds_of_wide 12 Tryz.f12 rfl rfl rfl rfl rfl rfl rfl ⟨rfl,rfl,rfl,rfl,rfl⟩ rfl rfl rfl rfl rfl J2r Tryz.func12 J2y
  J2u (by unfold Func.isWrapper; first | (rw [if_pos (by decide +kernel)]; kernel_rfl) | (rw [if_neg (by decide +kernel)]; exact ⟨rfl,rfl⟩))
  (fun os started H enc _=>J2z os started H enc)
theorem J3a:Rows.policyCertifiesRow.wfByText (OpenSpec.ofChange Rows.policyCertifiesSpec)=true:=by kernel_rfl
theorem J3g:Tryz.pinned.checked.prog.mainIs=some (Rows.policyCertifiesCard.stood.harness.1,Rows.policyCertifiesCard.stood.harness.2.toList):=by kernel_rfl
theorem J3e:Rows.policyCertifiesCard.stood.looks=Tryz.pinned.checked.prog.looks []:=by kernel_rfl
theorem J3h:false=Rows.policyCertifiesRow.goesBy Tryz.pinned.checked.prog:=by kernel_rfl
theorem J2w:([25,3].all fun u=>!Tryz.prog.wantsStandIn u)=true:=by kernel_rfl
theorem policyCertifies_card:Rows.PolicyCertifiesCardSaid :=
 Claim7.holds_tied_plain_at .later [] [.data,.data,.data,.widerDeep] true _ false J3b (fun _ h=>by cases h) J3a (fun _ h=>by cases h) policyCertifies_row_tie rfl ⟨rfl,rfl⟩ J3g rfl
  (fun f fn hf hfn=>by
   obtain rfl:f=12:=Option.some.inj (J2r.symm.trans hf) |>.symm
   obtain rfl:fn=Tryz.f12:=(Option.some.inj (Tryz.func12.symm.trans hfn)).symm;exact ⟨J3e,fun j t ht=>by
    have ht:#[25,3][j]?=some t:=Tryz.params12 ▸ ht;have hm:t ∈ [25,3]:=by simpa using Array.mem_of_getElem? ht
    exact (show Tryz.prog.wantsStandIn t=false by simpa using List.all_eq_true.1 J2w t hm)⟩)
  J3h
#print axioms policyCertifies_card
end Go.Proofs.YthnobngcipaljaaGreatDoor
