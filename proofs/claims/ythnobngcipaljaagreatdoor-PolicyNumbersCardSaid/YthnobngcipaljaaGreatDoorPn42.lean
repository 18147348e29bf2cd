/- The law PolicyNumbers: for every input the call returns true, and each argument reads afterwards as before: the row's statement, and its tied card. The listed tables of math/bits, strconv and policy are as the program's text lays them. -/
import Derived.Test.YthnobngcipaljaaGreatDoorPn20
import Derived.Test.YthnobngcipaljaaGreatDoorPn41
set_option maxRecDepth 1000000
set_option maxHeartbeats 64000000
set_option linter.unusedVariables false
set_option linter.unusedSimpArgs false
set_option linter.constructorNameAsVariable false
namespace Go.Proofs.YthnobngcipaljaaGreatDoor
open Go.ChangeShapes Go.WideShapes Go.ChangeAt Go.RowKit Go.Tw
theorem X1a (os:Os) (started:os.Started) (H:Type) (enc:TypeId × Value -> H) :
    ReturnsInHanded {} Tryz.checked os 9 .any (fun w args=>(Rows.policyNumbersSpec.pre enc Tryz.prog Tryz.f9 Rows.policyNumbersRow.domain false w args /\ laidMetH Tryz.prog Z4f w) /\ sizedMet enc Tryz.prog Tryz.f9 (OpenSpec.ofChange Rows.policyNumbersSpec) false w args)
     (Rows.policyNumbersSpec.post enc Tryz.prog Tryz.f9 false true false false):=by
 refine returnsInHanded_of_change_and (C:=Tryz.checked) (X:=fun w _=>laidMetH Tryz.prog Z4f w) (fun _ _ _ hh h=>h.of_heap hh) own started (by kernel_rfl) Tryz.func9
  (ChangeSpec.witness_shaped (enc:=enc) (C:=Tryz.checked) (os:=os) (X:=fun w _=>laidMetH Tryz.prog Z4f w) false (World.laidAll Tryz.prog os Z4f) #[.agg #[.int .i64 0,.slice none 0 0,.slice none 0 0],.agg #[.slice none 0 0],.slice none 0 0] 8 (World.laidAll_os _ _ _)
   (World.shaped_of_ZipB (by kernel_rfl) (by kernel_rfl)) (by kernel_rfl) (by kernel_rfl) (by kernel_rfl)
   (by rw [MakeChecks.laidMetH_plain _ _ _ (by kernel_rfl)]; exact laidMet_laidAll _ (by kernel_rfl) (by kernel_rfl))) ?_
 intro W base args ds gs before hval0 hW hc hsz0 hL _;have hval:∀ (j:Nat) t v,Tryz.f9.params[j]?=some t -> args[j]?=some v -> Value.okWide Tryz.prog W .any base t v:=hval0;have hsz:(DataW.weightsEach Tryz.prog (Tryz.f9.params.toList ++ Rows.policyNumbersSpec.plain.varTypes Tryz.prog) (ds ++ gs)).all (· <= reachBytes)=true:=hsz0;have hW':=hW;obtain ⟨p,q,hA0,hV,rfl,hfz,hnd⟩:=hW;have hA:DataW.TrodAll enc Tryz.prog W 0 (fun _=>true) true Tryz.f9.params.toList args.toList ds p:=hA0;rw [Tryz.params9] at hA hval hsz;obtain ⟨v0,vs0,d0,ds0,p0,q0,hargs,rfl,rfl,h0,r0⟩:=trodAll_cons hA;obtain ⟨v1,vs1,d1,ds1,p1,q1,rfl,rfl,rfl,h1,r1⟩:=trodAll_cons r0;obtain ⟨v2,vs2,d2,ds2,p2,q2,rfl,rfl,rfl,h2,r2⟩:=trodAll_cons r1;obtain ⟨rfl,rfl,rfl⟩:=trodAll_nil r2;obtain rfl:args=#[v0,v1,v2]:=by cases args; simp_all
 obtain ⟨rfl,rfl⟩:=trodVars_none hV;have hfit:∀ x ∈ DataW.weightsEach Tryz.prog [25,47,22] [d0,d1,d2],x <= 140737488351232:=fun x hx=>by
  have:=List.all_eq_true.1 (show (DataW.weightsEach Tryz.prog [25,47,22] [d0,d1,d2]).all (· <= reachBytes)=true from hsz) x hx
  exact Nat.le_trans (of_decide_eq_true this) (by decide)
 obtain ⟨f0,g0⟩:=Q3e hfit;obtain ⟨f1,g1⟩:=Q3e g0;obtain ⟨f2,g2⟩:=Q3e g1;have k0:=h0;have lt0:∀ x ∈ p0,x.block < W.heap.size:=by obtain ⟨m,hm⟩:=k0; exact DataW.trod_lt m _ _ _ hm
 obtain ⟨t0,HI0⟩:=Y1f (hval 0 25 v0 rfl rfl) h0 f0;have k1:=h1;have lt1:∀ x ∈ p1,x.block < W.heap.size:=by obtain ⟨m,hm⟩:=k1; exact DataW.trod_lt m _ _ _ hm
 obtain ⟨t1,HI1⟩:=Y0q (hval 1 47 v1 rfl rfl) h1 f1;have k2:=h2;have lt2:∀ x ∈ p2,x.block < W.heap.size:=by obtain ⟨m,hm⟩:=k2; exact DataW.trod_lt m _ _ _ hm
 obtain ⟨a2,len2,cap2,rfl⟩:=okWide_slice Tryz.underlying22 (hval 2 22 v2 rfl rfl);obtain ⟨t2,HI2⟩:∃ l,Q0e W (.slice a2 len2 cap2) l:=by
  obtain ⟨m,hm⟩:=h2;exact Q4z (by simpa [Value.cells] using hm) f2
 have hcall:Calls Tryz.prog 9 #[v0,v1,.slice a2 len2 cap2] W fun e W'=>e=.returned (.bool true) /\ Ext W W':=X4q _ _ _ _ _ _ _ HI0 HI1 HI2 (Y3m hL);clear hA0 hval0 hsz0;refine hcall.mono fun e W' ⟨he,bel⟩=>?_;subst he;exact ⟨_,rfl,_,_,_,[],_,[],hW',trodAll_mk1 (shut_bool Tryz.underlying4 _),(trodAll_cons_mk (Below.trod laidOut (by kernel_rfl) (of_decide_eq_true (by kernel_rfl)) k0 bel lt0) (trodAll_cons_mk (Below.trod laidOut (by kernel_rfl) (of_decide_eq_true (by kernel_rfl)) k1 bel lt1) (trodAll_cons_mk (Below.trod laidOut (by kernel_rfl) (of_decide_eq_true (by kernel_rfl)) k2 bel lt2) trodAll_mk0))),rfl,bel.frame _,fun h=>by cases h⟩
theorem Q6v:Tryz.pinned.checked.prog.funcNamed Rows.policyNumbersRow.func=some 9:=by kernel_rfl
theorem Q8w:Tryz.f9.isInstance Tryz.pinned.checked.prog Rows.policyNumbersRow.origin Rows.policyNumbersRow.targs:=of_decide_eq_true (by kernel_rfl)
theorem X6x:(Rows.policyNumbersRow.wf (OpenSpec.ofChange Rows.policyNumbersSpec):Bool)=true:=by kernel_rfl
theorem X6u:(Tryz.f9.params.all (Tryz.prog.readableRec ·):Bool)=true:=by kernel_rfl
theorem X6y:(namedTie Tryz.prog Rows.policyNumbersRow.named Rows.policyNumbersSpec.vars:Bool)=true:=by kernel_rfl
theorem X7c:((Rows.policyNumbersRow.stops == []):Bool)=true:=by kernel_rfl
theorem X7i:((Rows.policyNumbersRow.knobs == []):Bool)=true:=by kernel_rfl
theorem X6v:((Rows.policyNumbersRow.inPlace == Tryz.prog.inPlace 9):Bool)=true:=by kernel_rfl
theorem X5e:((Rows.policyNumbersRow.unfollowed == Tryz.prog.unfollowed 9):Bool)=true:=by kernel_rfl
theorem X4c:((Rows.policyNumbersRow.recurses == Tryz.prog.recurses 9):Bool)=true:=by kernel_rfl
theorem X4l:((Rows.policyNumbersRow.named == Tryz.prog.varsNamed 9):Bool)=true:=by kernel_rfl
theorem X4s:((Rows.policyNumbersRow.maps == (Tryz.f9.params.toList ++ Rows.policyNumbersSpec.plain.varTypes Tryz.prog).any (Tryz.prog.mapsRec ·)):Bool)=true:=by kernel_rfl
theorem X3v:((Rows.policyNumbersRow.ifaces == (Tryz.f9.params.toList ++ Rows.policyNumbersSpec.plain.varTypes Tryz.prog).any (Tryz.prog.ifacesRec ·)):Bool)=true:=by kernel_rfl
theorem X5j:((Rows.policyNumbersRow.mapsOut == Tryz.prog.mapsAmong Tryz.f9.resultTypes.toList):Bool)=true:=by kernel_rfl
theorem X4w:((Rows.policyNumbersRow.loops == (Tryz.f9.params.toList ++ Rows.policyNumbersSpec.plain.varTypes Tryz.prog).any (Tryz.prog.loopsFrom ·)):Bool)=true:=by kernel_rfl
theorem X4y:((Rows.policyNumbersRow.wideKeys == (Tryz.f9.params.toList ++ Rows.policyNumbersSpec.plain.varTypes Tryz.prog ++ Tryz.f9.resultTypes.toList).any (Tryz.prog.wideKeysFrom ·)):Bool)=true:=by kernel_rfl
theorem X5m:(Rows.policyNumbersSpec.vars.all (Tryz.prog.varReadable ·):Bool)=true:=by kernel_rfl
theorem X4p:(Tryz.f9.resultTypes.all (fun t=>Tryz.prog.readableRec t && decide (t < Tryz.prog.types.size)):Bool)=true:=by kernel_rfl
theorem X4g:((Rows.policyNumbersRow.ifacesOut == Tryz.f9.resultTypes.toList.any (Tryz.prog.ifacesRec ·)):Bool)=true:=by kernel_rfl
theorem X4z:((Rows.policyNumbersRow.loopsOut == Tryz.f9.resultTypes.toList.any (Tryz.prog.loopsFrom ·)):Bool)=true:=by kernel_rfl
theorem X4h:((Rows.policyNumbersRow.plainKeys == Tryz.prog.plainKeys):Bool)=true:=by kernel_rfl
theorem X3w:(Rows.policyNumbersRow.shortTexts.isNone:Bool)=true:=by kernel_rfl
theorem X5c:((Rows.policyNumbersRow.lifted == Tryz.prog.liftsFinal):Bool)=true:=by kernel_rfl
theorem X4j:((Tryz.prog.make == some Rows.policyNumbersRow.make):Bool)=true:=by kernel_rfl
theorem X5b:(Rows.policyNumbersRow.domain.isEmpty && (Rows.policyNumbersRow.kinds == []):Bool)=true:=by kernel_rfl
theorem X5r:((Rows.policyNumbersRow.pinned == Rows.policyNumbersRow.pinnedBy):Bool)=true:=by kernel_rfl
theorem X5s:((Rows.policyNumbersRow.veiled == (Tryz.f9.params.toList ++ Rows.policyNumbersSpec.plain.varTypes Tryz.prog ++ Tryz.f9.resultTypes.toList).any (Tryz.prog.veiledRec ·)):Bool)=true:=by kernel_rfl
theorem X4i:(Rows.policyNumbersRow.veiledFits Tryz.prog Tryz.f9.params.toList (Tryz.f9.params.toList ++ Rows.policyNumbersSpec.plain.varTypes Tryz.prog ++ Tryz.f9.resultTypes.toList):Bool)=true:=by kernel_rfl
theorem X0z:joinedFacts Tryz.pinned.checked.prog 9 Tryz.f9 Rows.policyNumbersSpec Rows.policyNumbersRow=true :=
 Z6g Tryz.prog 9 Tryz.f9 Rows.policyNumbersSpec Rows.policyNumbersRow X6x J2l J4i X6u X6y X7c J2t X7i J2p X6v X5e X4c X4l X4s X3v X5j X4w X4y X5m X4p X4g X4z X4h X3w J0i Z9s X5c X4j X5b X5r X5s X4i
theorem X2a:Rows.PolicyNumbersSaid :=
 OpenClaim.holds_of_wide 9 Tryz.f9 rfl rfl rfl rfl rfl rfl rfl ⟨rfl,rfl,rfl,rfl,rfl⟩ rfl rfl rfl rfl rfl Q6v Tryz.func9 X0z
  Q8w (by unfold Func.isWrapper; first | (rw [if_pos (by decide +kernel)]; kernel_rfl) | (rw [if_neg (by decide +kernel)]; exact ⟨rfl,rfl⟩))
  (fun os started H enc _=>X1a os started H enc)
theorem X0x:Rows.policyNumbersRow.wfByText (OpenSpec.ofChange Rows.policyNumbersSpec)=true:=by kernel_rfl
theorem X3g:Tryz.pinned.checked.prog.mainIs=some (Rows.policyNumbersCard.stood.harness.1,Rows.policyNumbersCard.stood.harness.2.toList):=by kernel_rfl
theorem X1x:Rows.policyNumbersCard.stood.looks=Tryz.pinned.checked.prog.looks []:=by kernel_rfl
theorem X3n:false=Rows.policyNumbersRow.goesBy Tryz.pinned.checked.prog:=by kernel_rfl
theorem Q8y:([25,47,22].all fun u=>!Tryz.prog.wantsStandIn u)=true:=by kernel_rfl
theorem policyNumbers_card:Rows.PolicyNumbersCardSaid :=
 Claim7.holds_tied_plain_at .later [] [.data,.data,.data,.widerDeep] true _ false X2a (fun _ h=>by cases h) X0x (fun _ h=>by cases h) policyNumbers_row_tie rfl ⟨rfl,rfl⟩ X3g rfl
  (fun f fn hf hfn=>by
   obtain rfl:f=9:=Option.some.inj (Q6v.symm.trans hf) |>.symm
   obtain rfl:fn=Tryz.f9:=(Option.some.inj (Tryz.func9.symm.trans hfn)).symm;exact ⟨X1x,fun j t ht=>by
    have ht:#[25,47,22][j]?=some t:=Tryz.params9 ▸ ht;have hm:t ∈ [25,47,22]:=by simpa using Array.mem_of_getElem? ht
    exact (show Tryz.prog.wantsStandIn t=false by simpa using List.all_eq_true.1 Q8y t hm)⟩)
  X3n
#print axioms policyNumbers_card
end Go.Proofs.YthnobngcipaljaaGreatDoor
