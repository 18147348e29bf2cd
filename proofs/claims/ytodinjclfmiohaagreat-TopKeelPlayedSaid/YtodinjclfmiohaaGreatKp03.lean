/- Facts for a step: the flow of a kind, its call, the field of a kind, what an addition keeps. Contracts of small functions of the basin: when, first, within, mapped over integers, checkTide, checkInflow. Contracts of the basin: checkVolumes, the level of a node. Contracts of the basin: the check of a valid link. The closings of a policy as the reference makes them (each rule that fits is put behind) are those of the specification: plain lists, no program is in sight. Contract of the reference: closings. Contract of the reference: Play. Contract of the reference: Kept. The contract of the reference's Lowest. The groups as the reference makes them are those of the specification: plain lists, no program is in sight. Certificates and refusals: what is accepted and what is not; plain lists, no program is in sight. Contract of the reference: coded. Contracts of the reference: Short, ShortPolicy, ShortGroups. Contract: CheckSeason. Loads of a part of a block (as for the faults, without their chain of texts). Contracts of the basin: the check of a valid link. Contracts of the basin: the checks of all links. Contract of the basin: CheckBasin of a basin that the program accepts. Blocks of structs: their cells by a function of the place; stores, copies and clears of parts of a block. A copy into the first elements of a block, as an arm (as in RH13, with less ahead of it). A list of lists that a call makes and appends to. Lists of closings. -/
import Derived.Test.YtodinjclfmiohaaGreatKp02
import Derived.Test.YtodinjclfmiohaaGreatKp01
import Derived.Deep.DeepMust
import Derived.Deep.DeepCutAuto
import Derived.ChangeKeysEq
import Derived.BigFrameIn
import Derived.OwnWalkIn
import Derived.Laws.StructEq
import Derived.Laws.MakeOwn
set_option maxRecDepth 1000000
set_option maxHeartbeats 64000000
set_option linter.unusedVariables false
set_option linter.unusedSimpArgs false
set_option linter.constructorNameAsVariable false
namespace Go.Proofs
open Go.RowKit Go.Tw Go.Flow Go.Ba
def X0c (s:ByteArray):Nat:=if s = Q1y then 200 else if s = Y1g then 201 else if s = Q5e then 203 else if s = Y2u then 205 else 206
def Z2b (s:ByteArray):Bool:=decide (s = Q1y) || decide (s = Y1g)
def Z1s (s:ByteArray):Bool:=decide (s = Q5e)
theorem X6q {s:ByteArray} (h:Y6c s ≠ none):Q5k s X2a = some (kdV (Z2b s) (Z1s s) (X0c s)):=by
 unfold X2a X0c Z2b Z1s;unfold Y6c at h
 by_cases h1:s = Q1y
 . subst h1; kernel_rfl
 by_cases h2:s = Y1g
 . subst h2; kernel_rfl
 by_cases h3:s = Q5e
 . subst h3; kernel_rfl
 by_cases h4:s = Y2u
 . subst h4; kernel_rfl
 by_cases h5:s = Y5s
 . subst h5; kernel_rfl
 . rw [if_neg h1,if_neg h2,if_neg h3,if_neg h4,if_neg h5] at h; exact absurd rfl h
theorem X8g (a b:Bool) (f:Nat) (w:World):(Instr.field 273 (kdV a b f) 1).run Tryz.prog w = .ok (.func (.func f) #[] #[]) w:=by kernel_rfl
theorem Tryz.Z2p (w:World):(isAgg 106).run Tryz.prog w = .ok true w:=by kernel_rfl
theorem Tryz.Y8w (w:World):(sizeOf 106).run Tryz.prog w = .ok 5 w:=by kernel_rfl
theorem Y1x (s:ByteArray) (args:Array Value) (w:World):(callFunc (X0c s) args).run Tryz.prog w = .ok (.enter (X0c s) args) w:=by
 unfold X0c
 split
 . exact enters_of Tryz.func200 (by kernel_rfl) rfl _ _
 split
 . exact enters_of Tryz.func201 (by kernel_rfl) rfl _ _
 split
 . exact enters_of Tryz.func203 (by kernel_rfl) rfl _ _
 split
 . exact enters_of Tryz.func205 (by kernel_rfl) rfl _ _
 . exact enters_of Tryz.func206 (by kernel_rfl) rfl _ _
theorem Z0f (w:World) (l:Q4r) (hk:Y6c l.kind ≠ none) (v ar td:Int) (o:Bool) (hb:PlB l.lev l.rate v ar td) :
    Calls Tryz.prog (X0c l.kind) #[plV l.kind l.src l.dst l.lev l.rate v ar td o] w fun e w'=>e = .returned (.int .i64 (l.Q9j.flow v ar td o)) /\ Ext w w':=by
 unfold X0c Q4r.Q9j Lk.flow;unfold Y6c at hk ⊢
 by_cases h1:l.kind = Q1y
 . simp only [if_pos h1]; exact Y3l w _ _ _ _ _ _ _ _ _ hb
 by_cases h2:l.kind = Y1g
 . simp only [if_neg h1,if_pos h2]; exact Z1c w _ _ _ _ _ _ _ _ _ hb
 by_cases h3:l.kind = Q5e
 . simp only [if_neg h1,if_neg h2,if_pos h3]; exact Y1u w _ _ _ _ _ _ _ _ _ hb
 by_cases h4:l.kind = Y2u
 . simp only [if_neg h1,if_neg h2,if_neg h3,if_pos h4]; exact Y9n w _ _ _ _ _ _ _ _ _ hb
 by_cases h5:l.kind = Y5s
 . simp only [if_neg h1,if_neg h2,if_neg h3,if_neg h4,if_pos h5]; exact Z0r w _ _ _ _ _ _ _ _ _ hb
 . rw [if_neg h1,if_neg h2,if_neg h3,if_neg h4,if_neg h5] at hk; exact absurd rfl hk
theorem Q1m.two {w w':World} {go gb b:Nat} {V:List Int} {q:Bool} {tb:Nat} {l:List (ByteArray × Value)} (h:Q1m w tb l) (hs:StB w go gb b V q) (ht:Two gb b w w'):Q1m w' tb l:=by
 obtain ⟨a,c,hb,he⟩:=h;refine ⟨a,c,?_,he⟩;rw [ht.2 tb]
 . exact hb
 . rintro rfl; have:=hs.q; unfold Blk at this; rw [hb] at this; cases this
 . rintro rfl; have:=hs.r; unfold Blk at this; rw [hb] at this; cases this
theorem Q0g.two {α:Type} {w w':World} {base gb b:Nat} {e:TypeId} {enc:α -> Value} {v:Value} {l:List α} (h:Q0g w base e enc v l) (h1:gb < base) (h2:b < base) (ho:Two gb b w w'):Q0g w' base e enc v l:=by
 obtain ⟨h3,h4⟩:=h;refine ⟨h3,?_⟩
 rcases h4 with h4 | ⟨g',cap,cur,hv,hb,hg',r⟩
 . exact .inl h4
 . exact .inr ⟨g',cap,cur,hv,hb,by rw [ho.2 _ (by omega) (by omega)]; exact hg',r⟩
structure Z6m (x:Q1b) (c:Cond) (U:List Int) (q:Bool) (j:Nat) (kd:ByteArray) (lf lt la lr:Int) (nd:Nat) (fl:Int):Prop where
 inN:nd < x.nodes.length
 node:(if lf = -1 then lt else lf) = (nd:Int)
 pl:PlB la lr (ix (Q3y x c U q j).1 nd) (Q4x x.nodes nd) c.tide
 kind:Y6c kd ≠ none
 flow:(Q4r.mk kd lf lt la lr).Q9j.flow (ix (Q3y x c U q j).1 nd) (Q4x x.nodes nd) c.tide c.opn = fl
 bd:-200000000000000 <= fl /\ fl <= 200000000000000
 src:lf = -1 ∨ (0 <= lf /\ lf < x.nodes.length)
 dst:lt = -1 ∨ (0 <= lt /\ lt < x.nodes.length)
 b1:∀ k,-4000000000000000000 <= ix (Q3y x c U q j).1 k + -fl /\ ix (Q3y x c U q j).1 k + -fl <= 4000000000000000000
 b2:∀ k,-4000000000000000000 <= ix (Q4j (Q3y x c U q j).1 lf (-fl)) k + fl /\ ix (Q4j (Q3y x c U q j).1 lf (-fl)) k + fl <= 4000000000000000000
 next:Q3y x c U q (j + 1) = (Q4j (Q4j (Q3y x c U q j).1 lf (-fl)) lt fl,((Q3y x c U q j).2.1 && Q4y (Q4j (Q3y x c U q j).1 lf (-fl)) lf) && Q4y (Q4j (Q4j (Q3y x c U q j).1 lf (-fl)) lt fl) lt,(Q3y x c U q j).2.2 ++ [fl])
theorem Z6v {x:Q1b} (hb:x.Ok) {c:Cond} (hc:-1024 <= c.tide /\ c.tide <= 1024) {U:List Int} (hl:U.length = x.nodes.length) (hU:Bnd U 100100000) (q:Bool) {j:Nat} (hj:j < x.links.length) {kd:ByteArray} {lf lt la lr:Int} (hlk:lk x.links j = ⟨kd,lf,lt,la,lr⟩) :
    ∃ nd fl,Z6m x c U q j kd lf lt la lr nd fl:=by
 have hm0:(0:Int) <= Y5y 100100000 j:=Q6a (by decide) j
 have hm1:Y5y 100100000 j <= 100000000000000:=Z7i ⟨by decide,by decide⟩ (by have:=hb.many; omega)
 have hB:=X7t hb hc.2 hl (by decide) hU q (k:=j) (by omega)
 have hLB:=Y4h hb hc.2 hj (U:=(Q3y x c U q j).1) ((Q3w ..).trans hl) hm0 hB;have hf:=hb.links j hj;have hlv:=hb.levs j hj;have hk:=hb.kinds j hj;obtain ⟨e1,e2,e3,e4⟩:=Fits.Z2s hf;have hn:(lk x.links j).Q9j.node.toNat < x.nodes.length:=by omega
 have hv:=hB (lk x.links j).Q9j.node.toNat;obtain ⟨f1,f2,_,_⟩:=Y6k hf (a:=Q4x x.nodes (lk x.links j).Q9j.node.toNat) (t:=c.tide) c.opn hv (Y3d hb _ hn) hc.2;have hfe:Q2g x c j (Q3y x c U q j).1 = (lk x.links j).Q9j.flow (ix (Q3y x c U q j).1 (lk x.links j).Q9j.node.toNat) (Q4x x.nodes (lk x.links j).Q9j.node.toNat) c.tide c.opn:=rfl;have hnx:Q3y x c U q (j + 1) = (Q4j (Q4j (Q3y x c U q j).1 (lk x.links j).src (-(Q2g x c j (Q3y x c U q j).1))) (lk x.links j).dst (Q2g x c j (Q3y x c U q j).1),((Q3y x c U q j).2.1 && Q4y (Q4j (Q3y x c U q j).1 (lk x.links j).src (-(Q2g x c j (Q3y x c U q j).1))) (lk x.links j).src) && Q4y (Q4j (Q4j (Q3y x c U q j).1 (lk x.links j).src (-(Q2g x c j (Q3y x c U q j).1))) (lk x.links j).dst (Q2g x c j (Q3y x c U q j).1)) (lk x.links j).dst,(Q3y x c U q j).2.2 ++ [Q2g x c j (Q3y x c U q j).1]):=rfl;have har:=Y3d hb _ hn;rw [<- hfe] at f1 f2;have hr:=hf.rate;have ha:=hf.at0;rw [hlk] at hfe hnx hLB e1 e2 e3 e4 hk hlv hr ha hn har hv;refine ⟨_,Q2g x c j (Q3y x c U q j).1,⟨hn,?_,⟨⟨ha,hlv.1⟩,⟨hr,hlv.2⟩,⟨hv.1,by omega⟩,har,by omega⟩,hk,hfe.symm,by omega,e1,e2,fun k=>?_,fun k=>?_,hnx⟩⟩
 . show (if lf = -1 then lt else lf) = _
   have:(Q4r.mk kd lf lt la lr).Q9j.node = if lf = -1 then lt else lf:=rfl
   rw [<- this]; omega
 . have:=hB k; omega
 . have:=hLB.1 k; dsimp only at this; omega
theorem X8z {wr w':World} {v:Value} {B base:Nat} {e:TypeId} {n size:Nat} {xs:List Value} {o:Obj} (hown:wr.ownsRow base e size v n xs) (hb:B <= base) (hB:B <= wr.heap.size) (hg:(wr.alloc o).grownBy w' v.ownBlock):Below B wr w' :=
 Below.grown ((Below.refl B wr).alloc hB o) hg (by simp; omega) (fun k hk=>by have:=(hown.lt k hk).1; omega)
theorem Q1m.low {w w':World} {b M:Nat} {l:List (ByteArray × Value)} (h:Q1m w b l) (hx:Below M w w') (hb:b < M):Q1m w' b l:=by
 obtain ⟨a,c,he,h2⟩:=h;exact ⟨a,c,by rw [Below.block hx b hb]; exact he,h2⟩
theorem Y8s {w:World} {b:Nat} {T:TypeId} {V:List Int} {n:Nat} (h:Blk w b T (Y2o V)) (hn:V.length = n) (hl:n <= 17592186043904):Q0b w (.slice (some ⟨b,0,none⟩) n n) V:=by
 subst hn;refine ⟨fun j=>.int .i64 (ix V j),⟨some ⟨b,0,none⟩,V.length,rfl,hl,Nat.le_refl _,fun j hj=>⟨b,0,rfl,?_⟩⟩,fun j hj=>?_⟩
 . have hj':j < V.length:=by omega
   rw [Nat.zero_add,h.cell];simp [Y2o,hj',ix]
 . simp [hj,ix]
theorem X4g {w:World} {b:Nat} {T:TypeId} {V:List Int} {n:Nat} (h:Blk w b T (Y2o V)) (hn:V.length = n) (hl:n <= maxLen):Q0g w 0 T (.int .i64) (.slice (some ⟨b,0,none⟩) n n) V:=by
 subst hn;refine ⟨by simp,.inr ⟨b,V.length,Y2o V,rfl,Nat.zero_le _,h,Nat.le_refl _,hl,by simp [Y2o],by simp [Y2o,List.take_of_length_le]⟩⟩
theorem Y7f {α:Type} {enc:α -> Value} {T:TypeId} {w:World} {base:Nat} {v:Value} {l:List α} (h:Q0g w base T enc v l):Q0g w 0 T enc v l:=by
 obtain ⟨h1,h2⟩:=h;refine ⟨h1,?_⟩
 rcases h2 with h2 | ⟨g,cap,cur,hv,hbg,r⟩
 . exact .inl h2
 . exact .inr ⟨g,cap,cur,hv,Nat.zero_le _,r⟩
end Go.Proofs
namespace Go.Proofs
open Go.RowKit Go.Tw Go.Flow
attribute [local go_sem] Oper.semAt_some
theorem X4e (w:World) (b:Bool) (x:Int) :
    Calls Tryz.prog 36 #[.bool b,.int .i64 x] w fun e w'=>e = .returned (.int .i64 (Q0t b x)) /\ w = w':=by
 cases b <;>
 . go_enter Tryz.func36,Tryz.ntmps36
   go_wp2;go_ret;exact ⟨rfl,rfl⟩
theorem Q9t (w:World) (v:Value) (l:List Int) (hv:Q0b w v l) :
    Calls Tryz.prog 75 #[v] w fun e w'=>e = .returned (.int .i64 (Q0h l)) /\ w = w':=by
 obtain ⟨A,cap,rfl,hl,hcap,hc⟩:=hv.opened;clear hv;go_enter Tryz.func75,Tryz.ntmps75;go_wp2
 go_loop [7] (fun i=>∃ k:Nat,k <= l.length /\ i = .int .i64 k /\ Q0h (l.drop k) = Q0h l) (fun i=>l.length - (intOf i).toNat)
 case atStart=>exact ⟨0,Nat.zero_le _,rfl,rfl⟩
 case round =>
  obtain ⟨k,hk,rfl,hr⟩:=hrel;have HR:=Lib.hid hr; clear hr
  by_cases hlt:k < l.length
  . obtain ⟨b,off,rfl,hcell⟩:=hc k hlt
    clear hc
    by_cases hx:ix l k = 0
    . have HX:=Lib.hid hx
      have hx1:(ix l k != 0) = false:=by simp [hx]
      clear hx;go_wp2;go_round
      case rel=>exact ⟨k + 1,by omega,by go_num,by rw [<- HR.out,Q2e hlt,Q0h,if_pos HX.out]⟩
      case measure=>simp [intOf]; omega
    . have hx1:(ix l k != 0) = true:=by simp [hx]
      have HX:=Lib.hid hx; clear hx;go_wp2;go_ret;exact ⟨Q0q (by rw [<- HR.out,Q2e hlt,Q0h,if_neg HX.out]),rfl⟩
  . clear hc
    go_wp2;go_ret;exact ⟨Q0q (by rw [<- HR.out,List.drop_eq_nil_of_le (by omega)]; rfl),rfl⟩
theorem Q6g (w:World) (x a b:Int) :
    Calls Tryz.prog 71 #[.int .i64 x,.int .i64 a,.int .i64 b] w fun e w'=>e = .returned (.int .i64 (Q0e x a b)) /\ w = w':=by
 unfold Q0e
 by_cases h1:x < a
 . rw [if_pos (.inl h1)]
   go_enter Tryz.func71,Tryz.ntmps71;go_wp2;go_ret;exact ⟨rfl,rfl⟩
 . by_cases h2:b < x
   . rw [if_pos (.inr h2)]
     go_enter Tryz.func71,Tryz.ntmps71;go_wp2;go_ret;exact ⟨rfl,rfl⟩
   . rw [if_neg (by omega)]
     go_enter Tryz.func71,Tryz.ntmps71;go_wp2;go_ret;exact ⟨rfl,rfl⟩
theorem X8l (w:World) (x:Int) :
    Calls Tryz.prog 153 #[.int .i64 x] w fun e w'=>e = .returned (.int .i64 (Q0e x (-1024) 1024)) /\ w = w':=by
 go_enter Tryz.func153,Tryz.ntmps153;go_wp2_with (go_at_call 71; refine (Q6g _ x (-1024) 1024).mono ?_; rintro e w' ⟨rfl,rfl⟩);go_ret;exact ⟨rfl,rfl⟩
theorem X3f (w:World) (x:Int) :
    Calls Tryz.prog 155 #[.int .i64 x] w fun e w'=>e = .returned (.int .i64 (Q0e x 0 100000)) /\ w = w':=by
 go_enter Tryz.func155,Tryz.ntmps155;go_wp2_with (go_at_call 71; refine (Q6g _ x 0 100000).mono ?_; rintro e w' ⟨rfl,rfl⟩);go_ret;exact ⟨rfl,rfl⟩
theorem X4y (w:World) (x:Int) :
    Calls Tryz.prog 180 #[.int .i64 x] w fun e w'=>e = .returned (.int .i64 (Q0e x 0 100000000)) /\ w = w':=by
 go_enter Tryz.func180,Tryz.ntmps180;go_wp2_with (go_at_call 71; refine (Q6g _ x 0 100000000).mono ?_; rintro e w' ⟨rfl,rfl⟩);go_ret;exact ⟨rfl,rfl⟩
theorem Q7x (w:World) (v:Value) (l:List Int) (g:Nat) (f:Int -> Int) (hv:Q0b w v l) (hle:l.length <= 4096) (eg:∀ args w,(callFunc g args).run Tryz.prog w = .ok (.enter g args) w)
    (hf:∀ W x,Calls Tryz.prog g #[.int .i64 x] W fun e W'=>e = .returned (.int .i64 (f x)) /\ W = W') :
    Calls Tryz.prog 154 #[v,.func (.func g) #[] #[]] w fun e w'=>∃ x,e = .returned x /\ Q0b w' x (l.map f) /\ Ext w w':=by
 obtain ⟨i0,hi,hz0,hz1,hz2⟩:=info_parts Tryz.Q8u;obtain ⟨A,cap,rfl,hl,hcap,hc⟩:=hv.opened;have HC:=Lib.hid hc;have HF:=Lib.hid hf;clear hv hc hf;go_enter Tryz.func154,Tryz.ntmps154;go_wp2
 go_loopw [5,10] (fun o i wr=>∃ (k:Nat),k <= l.length /\ i = .int .i64 k /\ Q0g wr w.heap.size 34 (.int .i64) o ((l.map f).take k) /\ Ext w wr) (fun _ i _=>l.length - (intOf i).toNat)
 case atStart=>exact ⟨0,Nat.zero_le _,rfl,Q0g.nil _ _ _ _,Ext.refl _⟩
 case round =>
  obtain ⟨k,hk,rfl,hown,hx⟩:=hrel;have hlen:((l.map f).take k).length = k:=by rw [List.length_take,List.length_map]; omega
  by_cases hlt:k < l.length
  . obtain ⟨b,off,rfl,hcell⟩:=HC.out k hlt
    have HTK:=Lib.hid (X9i f l hlt);obtain ⟨s,hs⟩:∃ s,ix l k = s:=⟨_,rfl⟩;have HFS:=Lib.hid (HF.out wr s);rw [hs] at hcell HTK;obtain ⟨y,hy⟩:∃ y,f s = y:=⟨_,rfl⟩;rw [hy] at HFS HTK;replace hcell:=hx.cell hcell;have hll:((l.map f).take k).length <= 4096:=by omega
    clear hs hlen hy;go_wp2_with (first | (refine HFS.out.mono ?_; rintro e w9 ⟨rfl,rfl⟩) | (at_builtin; refine wpList_append_own _ rfl _ _ 178 rfl (w.heap.size) 34 i0 (.int .i64 0) 1 8 Tryz.underlying178 hi hz0 hz1 hz2 rfl (by decide) _ _ _ rfl (World.ownsRow.alloc hown _) ⟨wr.heap.size,0,none⟩ 1 1 [.int .i64 y] rfl rfl ?_ ?_ ?_ ?_ ?_ ?_; exact Q4h _ _ _; (focus (simp [Value.oneCell'])); (focus (unfold maxLen; omega)); (focus omega); (focus (have:=hx.size; simp at this ⊢; omega)); intro v' w1 hown' hgrow _))
    have hx':=Q2r hx hown (Nat.le_refl _) hgrow;go_wp2;go_roundw
    case rel=>exact ⟨k + 1,by omega,by go_num,by rw [<- HTK.out]; exact Q0g.snoc hown',hx'⟩
    case measure=>simp [intOf]; omega
  . have HE:Hid ((l.map f).take k = l.map f):=Lib.hid (by rw [List.take_of_length_le (by rw [List.length_map]; omega)])
    rw [HE.out] at hown;have HOWN:=Lib.hid hown;clear hown hlen;go_wp2;go_ret;exact ⟨_,rfl,HOWN.out.ints (by simp; omega),hx⟩
end Go.Proofs
namespace Go.Proofs
open Go.RowKit Go.Tw Go.Flow
attribute [local go_sem] Oper.semAt_some
theorem Y0j (w:World) (v:Value) (l:List Int) (hv:Q0b w v l) (hle:l.length <= 4096) :
    Calls Tryz.prog 154 #[v,.func (.func 180) #[] #[]] w fun e w'=>∃ x,e = .returned x /\ Q0b w' x (l.map fun x=>Q0e x 0 100000000) /\ Ext w w' :=
 Q7x w v l _ _ hv hle (enters_of Tryz.func180 (by kernel_rfl) rfl) (fun W x=>X4y W x)
theorem X8o (w:World) (v:Value) (l:List Int) (hv:Q0b w v l) (hle:l.length <= 4096) :
    Calls Tryz.prog 154 #[v,.func (.func 155) #[] #[]] w fun e w'=>∃ x,e = .returned x /\ Q0b w' x (l.map fun x=>Q0e x 0 100000) /\ Ext w w' :=
 Q7x w v l _ _ hv hle (enters_of Tryz.func155 (by kernel_rfl) rfl) (fun W x=>X3f W x)
abbrev ndC (s:ByteArray) (a l:Int):Array Value:=#[.string s,.int .i64 a,.int .i64 l]
theorem Y7o (w:World) (s:ByteArray) (a l v:Int) (ha:1 <= a /\ a <= 1000) (hv:0 <= v /\ v <= 1000000000000000) :
    Calls Tryz.prog 156 #[.agg (ndC s a l),.int .i64 v] w fun e w'=>e = .returned (.int .i64 (v / a)) /\ Ext w w':=by
 have hbox:=Ext.box w (.cells (ndC s a l) 105);have K0:=Blk.made w 105 (ndC s a l);have hq:v.tdiv a = v / a:=Int.tdiv_eq_ediv_of_nonneg hv.1;have hd:=X3l (x:=v) ha.1 hv.1 (Int.le_refl _);have hd0:0 <= v / a:=Int.ediv_nonneg hv.1 (by omega)
 have w1:IntKind.i64.wrap (v.tdiv a) = v.tdiv a:=Q1t (by omega) (by omega)
 have ha0:¬ (a:Int) = 0:=by omega
 have HQ:=Lib.hid hq;have c0:=(K0).cell 0;have c1:=(K0).cell 1;have c2:=(K0).cell 2;simp only [Go.Tw.gA,Go.Tw.gB,Go.Tw.gC] at c0 c1 c2;clear K0 hd hd0 hq;go_enter Tryz.func156,Tryz.ntmps156;go_wp2;go_ret;exact ⟨Q0q HQ.out,hbox⟩
theorem Y6s {w:World} {g:Nat} {T:TypeId} {a b:Int} (h:Blk w g T #[.int .i64 a,.int .i64 b]):Q0b w (.slice (some ⟨g,0,none⟩) 2 2) [a,b]:=by
 refine ⟨fun j=>if j = 0 then .int .i64 a else .int .i64 b,⟨some ⟨g,0,none⟩,2,rfl,by simp,Nat.le_refl _,fun j hj=>⟨g,0,rfl,?_⟩⟩,fun j hj=>?_⟩
 . have hj':j < 2:=hj
   rw [h.cell]
   match j,hj' with
   | 0,_=>rfl
   | 1,_=>rfl
 . match j,hj with
   | 0,_=>rfl
   | 1,_=>rfl
def Y0e (b:Q1b) (V:List Int):Int:=Q0h [Q0t ((V.length:Int) != b.nodes.length) 2,Q0h (V.map fun x=>Q0e x 0 100000000)]
theorem X2t (w:World) (vb vv:Value) (b:Q1b) (V:List Int) (hb:Q1s w vb b) (hv:Q0b w vv V) (hle:V.length <= 4096) :
    Calls Tryz.prog 152 #[vb,vv] w fun e w'=>e = .returned (.int .i64 (Y0e b V)) /\ Ext w w':=by
 obtain ⟨va,vl,rfl,h2⟩:=hb;obtain ⟨A,capa,rfl,-,-,-⟩:=h2.nodes.opened;obtain ⟨L,capl,rfl,-,-,-⟩:=h2.links.opened;obtain ⟨VA,capv,rfl,-,-,-⟩:=hv.opened;have HV:=Lib.hid hv;have HLE:=Lib.hid hle;obtain ⟨n,hn⟩:∃ z,b.nodes.length = z:=⟨_,rfl⟩;have HN:=Lib.hid hn;rw [hn];clear h2 hv hle hn;go_enter Tryz.func152,Tryz.ntmps152;go_wp2_with fail;change Calls _ _ _ (w.alloc (.cells #[.slice A n capa,.slice L b.links.length capl] 40)) _;obtain ⟨W,hWW,k0,HXW,eW⟩:=Q2q w 40 #[.slice A n capa,.slice L b.links.length capl];rw [hWW];clear hWW;refine (X4e _ _ 2).mono ?_;rintro e w2 ⟨rfl,hw⟩;subst hw;go_wp2_with fail;refine (Y0j _ _ V (HV.out.ext HXW.out) HLE.out).mono ?_;rintro e w2 ⟨u,rfl,hu,hx2⟩;go_wp2_with fail;refine (Q9t _ _ _ hu).mono ?_;rintro e w3 ⟨rfl,hw⟩;subst hw;have HX2:=Lib.hid (HXW.out.trans hx2);clear hu hx2;obtain ⟨a1,h1⟩:∃ z,Q0t ((V.length:Int) != n) 2 = z:=⟨_,rfl⟩;obtain ⟨a2,h2⟩:∃ z,Q0h (V.map fun x=>Q0e x 0 100000000) = z:=⟨_,rfl⟩
 have HA:Hid (Y0e b V = Q0h [a1,a2]):=Lib.hid (by unfold Y0e; rw [HN.out,h1,h2])
 rw [h1,h2];clear h1 h2;go_wp2_with fail;refine (Q9t _ _ [a1,a2] (Y6s (Blk.made _ _ _))).mono ?_;rintro e w4 ⟨rfl,hw⟩;subst hw;have HX4:=Lib.hid (HX2.out.trans (Ext.box w2 (.cells #[.int .i64 a1,.int .i64 a2] 34)));go_wp2;go_ret;exact ⟨Q0q HA.out.symm,HX4.out⟩
end Go.Proofs
namespace Go.Proofs
open Go.RowKit Go.Tw Go.Flow Go.Ba
attribute [local go_sem] Oper.semAt_some
theorem fits_any (w:World) (n:Int) (q:Bool) (g:Nat) (k:Nat) (hc:w.cell? ⟨g,0,none⟩ = some (.int .i64 k)) (h:if q then n = -1 else 0 <= n /\ n < k) :
    Calls Tryz.prog 175 #[.int .i64 n,.bool q,.pointer (some ⟨g,0,none⟩)] w fun e w'=>e = .returned (.bool true) /\ w = w':=by
 cases q with
 | true =>
   simp only [if_true] at h;subst h;go_enter Tryz.func175,Tryz.ntmps175;go_wp2;go_ret;exact ⟨rfl,rfl⟩
 | false =>
   simp only [Bool.false_eq_true,if_false] at h;obtain ⟨h0,h1⟩:=h;go_enter Tryz.func175,Tryz.ntmps175;go_wp2;go_ret;exact ⟨rfl,rfl⟩
end Go.Proofs
namespace Go.Tw
theorem Y9f {l:List (List Int)} (h:Asc l):l.Nodup:=h.imp fun h e=>by subst e; exact Q5h _ h
theorem Q1o {h:List (List Int)} {p:List Rul}:Q0x h p = 0 ↔ p.map Rul.classes = h:=by
 unfold Q0x
 constructor
 . intro e
   split at e
   . cases e
   . split at e
     . cases e
     . rename_i h2; exact Decidable.not_not.1 h2
 . intro e
   have hl:p.length = h.length:=by rw [<- e,List.length_map]
   rw [if_neg (fun hn=>hn hl),if_neg (fun hn=>hn e)]
end Go.Tw
namespace Go.Proofs
open Go.RowKit Go.Tw Go.Flow
attribute [local go_sem] Oper.semAt_some
theorem X4s {w:World} {A:Option Addr} {n cap:Nat} {l:List Int} (h:Q0b w (.slice A n cap) l) {k:Nat} (hk:k <= l.length):Q0b w (.slice A k cap) (l.take k):=by
 obtain ⟨c,⟨A',cap',hv,hn,hcap,hc⟩,h2⟩:=h;injection hv with e1 e2 e3;subst e1 e2 e3;have hlk:(l.take k).length = k:=by rw [List.length_take]; omega
 refine ⟨c,⟨A,cap,by rw [hlk],by omega,by omega,fun j hj=>hc j (by omega)⟩,fun j hj=>?_⟩
 rw [List.getElem_take];exact h2 j (by omega)
theorem Tryz.Z0l:(Tryz.prog.info? 4).map (fun i=>(i.zero,i.size,i.bytes)) = some (some (.bool false),1,1):=by kernel_rfl
end Go.Proofs
namespace Go.Proofs
open Go.RowKit Go.Tw Go.Flow
theorem Y5b (h:List Int) (row:List (List Int)):(Q6m h row).length <= row.length + 1:=by
 unfold Q6m;have hb:=(posB h row row.length).1;dsimp only
 split
 . omega
 . rw [List.length_append,List.length_append,List.length_take,List.length_drop,List.length_singleton]
   omega
theorem Q8q (s:Q0c) (t:Nat):∀ i,(s.Q4s t i).length <= i
 | 0=>by simp [Q0c.Q4s]
 | i + 1=>by
   have:=Q8q s t i;have:=Y5b ((Q0f s.members i).take (t + 1)) (s.Q4s t i);unfold Q0c.Q4s;omega
theorem X0x (s:Q0c):∀ n,(s.Q4v n).length <= n * s.members.length
 | 0=>by simp [Q0c.Q4v]
 | n + 1=>by
   have:=X0x s n;have:=Q8q s n s.members.length;unfold Q0c.Q4v;rw [List.length_append,Nat.add_mul,Nat.one_mul];omega
theorem Q7l {s:Q0c} (hS:Q1d s):s.hist.length <= 48:=by
 have:=X0x s s.ships.length;have h2:s.ships.length * s.members.length <= 6 * 8:=Nat.mul_le_mul hS.tides.2 hS.some.2;unfold Q0c.hist;omega
theorem Z3b {s:Q0c} (hS:Q1d s) {p:List Rul} (hp:Q0x s.hist p = 0):p.length <= 48:=by
 have:=Q7l hS;rw [<- Q1o.1 hp,List.length_map] at this;exact this
theorem Tryz.Z1y (w:World):(isAgg 55).run Tryz.prog w = .ok true w:=by kernel_rfl
theorem Tryz.Y7t (w:World):(sizeOf 55).run Tryz.prog w = .ok 3 w:=by kernel_rfl
theorem Tryz.Z4u (w:World):(isAgg 60).run Tryz.prog w = .ok true w:=by kernel_rfl
theorem Tryz.Z4c (w:World):(sizeOf 60).run Tryz.prog w = .ok 1 w:=by kernel_rfl
end Go.Proofs
namespace Go.Proofs
open Go.RowKit Go.Tw Go.Flow
attribute [local go_sem] Oper.semAt_some
def Z0o (s:Q0c) (p:List Rul) (i:Nat):Bool:=(Q1z s i).keeps s.limit (Q0u p (Q0f s.members i))
def Q5q (s:Q0c) (p:List Rul) (k:Nat):List Int:=((List.range k).filter (Z0o s p)).map Int.ofNat
theorem Y6b (s:Q0c) (p:List Rul):Q5q s p s.members.length = Q2h s p:=rfl
theorem Y2q (s:Q0c) (p:List Rul) (k:Nat):Q5q s p (k + 1) = if Z0o s p k then Q5q s p k ++ [(k:Int)] else Q5q s p k:=by
 unfold Q5q;rw [List.range_succ,List.filter_append,List.map_append]
 by_cases h:Z0o s p k = true
 . rw [if_pos h]; simp [h]
 . rw [if_neg h]; simp [h]
theorem X6l (s:Q0c) (p:List Rul) (k:Nat):(Q5q s p k).length <= k:=by
 unfold Q5q;rw [List.length_map];exact Nat.le_trans (List.length_filter_le _ _) (by simp)
end Go.Proofs
namespace Go.Proofs
open Go.RowKit Go.Tw Go.Flow
theorem Ext.frozen {a b:World} (h:Ext a b) {p:Addr} (hp:p.block < a.heap.size):b.frozen? p = a.frozen? p:=by
 obtain ⟨_,_,_,_,h5⟩:=h;unfold World.frozen?; rw [h5 _ hp]
end Go.Proofs
namespace Go.Tw
def Z7r (f:Nat -> List Int) (i:Nat):Bool:=!(List.range i).any fun j=>f j == f i
def Z5o (f:Nat -> List Int) (k:Nat):List Nat:=(List.range k).filter (Z7r f)
def Z7p (s:Q0c) (i:Nat):List Int:=Q0f s.members i
end Go.Tw
namespace Go.Tw
theorem kept_len (s:Q0c) (p:List Rul):(Q2h s p).length <= s.members.length:=by
 unfold Q2h;rw [List.length_map];exact Nat.le_trans (List.length_filter_le _ _) (by simp)
end Go.Tw
namespace Go.Proofs
open Go.RowKit Go.Tw Go.Flow
theorem Y3r (n k:Nat):(((n / 2 ^ k:Nat):Int).tmod 2 == 1) = n.testBit k:=by
 rw [Nat.testBit_eq_decide_div_mod_eq,show ((n / 2 ^ k:Nat):Int).tmod 2 = ((n / 2 ^ k % 2:Nat):Int) from (Int.ofNat_tmod _ 2).symm]
 by_cases h:n / 2 ^ k % 2 = 1
 . rw [h]; rfl
 . rw [decide_eq_false h,beq_eq_false_iff_ne]; omega
theorem Y6n (n k:Nat):((n / 2 ^ k:Nat):Int).tdiv 2 = ((n / 2 ^ (k + 1):Nat):Int):=by
 rw [show ((n / 2 ^ k:Nat):Int).tdiv 2 = ((n / 2 ^ k / 2:Nat):Int) from (Int.ofNat_tdiv _ 2).symm,Nat.div_div_eq_div_mul,<- Nat.pow_succ]
end Go.Proofs
namespace Go.Proofs
open Go.RowKit Go.Tw Go.Flow
def Z3x (P:Prop) (w w':World) (e:Ending):Prop:=∃ q,e = .returned (.bool q) /\ (q = true ↔ P) /\ Ext w w'
theorem qno {P:Prop} {w w':World} (h:¬ P) (hx:Ext w w'):Z3x P w w' (.returned (.bool false)):=⟨false,rfl,⟨fun k=>(by cases k),fun k=>absurd k h⟩,hx⟩
theorem Z7q {P:Prop} {w w':World} (h:P) (hx:Ext w w'):Z3x P w w' (.returned (.bool true)):=⟨true,rfl,⟨fun _=>h,fun _=>rfl⟩,hx⟩
def Q8j (s:Q0c) (i:Nat):Prop:=(Q1g s.members i).size <= 60 /\ (Q0f s.members i).length <= 8 /\ (Q0n s.members i).length <= 8 /\ (Q0v s.members i).length <= 8
structure Q3z (s:Q0c):Prop where
 ships:s.ships.length <= 7
 members:s.members.length <= 9
 each:∀ i,i < s.members.length -> Q8j s i
theorem Y5o (w:World) (v:Value) (s:Q0c) (hv:Q0o w v s) :
    Calls Tryz.prog 13 #[v] w fun e w'=>Z3x (Q3z s) w w' e:=by
 obtain ⟨a,b,rfl,h2⟩:=hv;obtain ⟨A,capa,rfl,hla,-,-⟩:=h2.ships.opened;obtain ⟨B,capb,rfl,hlb,-,hc⟩:=h2.members.opened;have HC:=Lib.hid hc;clear h2 hc;have HN1:Hid (¬ s.ships.length <= 7 -> ¬ Q3z s):=Lib.hid (fun h hs=>h hs.ships);have HN2:Hid (¬ s.members.length <= 9 -> ¬ Q3z s):=Lib.hid (fun h hs=>h hs.members);have HN3:Hid (∀ i,i < s.members.length -> ¬ Q8j s i -> ¬ Q3z s):=Lib.hid (fun i hi h hs=>h (hs.each i hi))
 by_cases h7:7 < s.ships.length
 . have h7I:(7:Int) < s.ships.length:=by omega
   have HF:=Lib.hid (HN1.out (by omega))
   clear h7;go_enter Tryz.func13,Tryz.ntmps13;go_wp2;go_ret;exact qno HF.out (Ext.box _ _)
 have h7I:¬ (7:Int) < s.ships.length:=by omega
 by_cases h9:9 < s.members.length
 . have h9I:(9:Int) < s.members.length:=by omega
   have HF:=Lib.hid (HN2.out (by omega))
   clear h9 h7;go_enter Tryz.func13,Tryz.ntmps13;go_wp2;go_ret;exact qno HF.out (Ext.box _ _)
 have h9I:¬ (9:Int) < s.members.length:=by omega
 have HOK:Hid ((∀ i,i < s.members.length -> Q8j s i) -> Q3z s):=Lib.hid (fun h=>⟨by omega,by omega,h⟩)
 clear h7 h9;go_enter Tryz.func13,Tryz.ntmps13;go_wp2_with fail;change Code.wp _ _ _ _ (w.alloc (.cells #[.int .i64 s.limit,.slice A s.ships.length capa,.slice B s.members.length capb] 55));obtain ⟨W,hWW,k0,HXW,eW⟩:=Q2q w 55 #[.int .i64 s.limit,.slice A s.ships.length capa,.slice B s.members.length capb];rw [hWW];clear hWW;have K0:=Lib.hid k0;clear k0 h7I h9I
 go_loopw [3] (fun i wr=>∃ k:Nat,k <= s.members.length /\ i = .int .i64 k /\ (∀ j,j < k -> Q8j s j) /\ Ext W wr) (fun i _=>s.members.length - (intOf i).toNat)
 case atStart=>exact ⟨0,Nat.zero_le _,rfl,fun j hj=>absurd hj (Nat.not_lt_zero j),Ext.refl _⟩
 case round =>
  obtain ⟨k,hk,rfl,hall,hxr⟩:=hrel;have HALL:=Lib.hid hall;have c2:=(K0.out.ext hxr).cell 2;simp only [Go.Tw.gA,Go.Tw.gB,Go.Tw.gC] at c2;have HXR:=Lib.hid hxr;clear hall hxr
  by_cases hlt:k < s.members.length
  . have hkI:(k:Int) < s.members.length:=by omega
    obtain ⟨bm,off,x,y,z,rfl,-,e0,e1,e2,e3,e4,hx,hy,hz,-⟩:=HC.out k hlt;obtain ⟨X,capx,rfl,-,-,-⟩:=hx.opened;obtain ⟨Y,capy,rfl,-,-,-⟩:=hy.opened;obtain ⟨Z,capz,rfl,-,-,-⟩:=hz.opened;replace e0:=(HXW.out.trans HXR.out).cell e0;replace e1:=(HXW.out.trans HXR.out).cell e1;replace e2:=(HXW.out.trans HXR.out).cell e2;replace e3:=(HXW.out.trans HXR.out).cell e3;replace e4:=(HXW.out.trans HXR.out).cell e4;have HSA:Hid (Q8j s k ↔ (Q1g s.members k).size <= 60 /\ (Q0f s.members k).length <= 8 /\ (Q0n s.members k).length <= 8 /\ (Q0v s.members k).length <= 8):=Lib.hid Iff.rfl;have HNK:=Lib.hid (HN3.out k hlt);obtain ⟨nm,hnm⟩:∃ x,Q1g s.members k = x:=⟨_,rfl⟩;obtain ⟨wt,hwt⟩:∃ x,Q1c s.members k = x:=⟨_,rfl⟩;obtain ⟨n1,hn1⟩:∃ x,(Q0f s.members k).length = x:=⟨_,rfl⟩;obtain ⟨n2,hn2⟩:∃ x,(Q0n s.members k).length = x:=⟨_,rfl⟩;obtain ⟨n3,hn3⟩:∃ x,(Q0v s.members k).length = x:=⟨_,rfl⟩;rw [hnm] at e0 HSA;rw [hwt] at e1;rw [hn1] at e2 HSA;rw [hn2] at e3 HSA;rw [hn3] at e4 HSA;clear hx hy hz hnm hwt hn1 hn2 hn3
    by_cases g0:60 < nm.size
    . have g0I:(60:Int) < (nm.size:Int):=by omega
      have HF:=Lib.hid (HNK.out (fun h=>by have:=(HSA.out.1 h).1; omega))
      clear g0
      go_light
      go_wp2;go_ret;exact qno HF.out (Ext.trans HXW.out (Ext.trans HXR.out (Ext.box _ _)))
    have g0I:¬ (60:Int) < (nm.size:Int):=by omega
    by_cases g1:8 < n1
    . have g1I:(8:Int) < (n1:Int):=by omega
      have HF:=Lib.hid (HNK.out (fun h=>by have:=(HSA.out.1 h).2.1; omega))
      clear g0 g1
      go_light
      go_wp2;go_ret;exact qno HF.out (Ext.trans HXW.out (Ext.trans HXR.out (Ext.box _ _)))
    have g1I:¬ (8:Int) < (n1:Int):=by omega
    by_cases g2:8 < n2
    . have g2I:(8:Int) < (n2:Int):=by omega
      have HF:=Lib.hid (HNK.out (fun h=>by have:=(HSA.out.1 h).2.2.1; omega))
      clear g0 g1 g2
      go_light
      go_wp2;go_ret;exact qno HF.out (Ext.trans HXW.out (Ext.trans HXR.out (Ext.box _ _)))
    have g2I:¬ (8:Int) < (n2:Int):=by omega
    by_cases g3:8 < n3
    . have g3I:(8:Int) < (n3:Int):=by omega
      have HF:=Lib.hid (HNK.out (fun h=>by have:=(HSA.out.1 h).2.2.2; omega))
      clear g0 g1 g2 g3
      go_light
      go_wp2;go_ret;exact qno HF.out (Ext.trans HXW.out (Ext.trans HXR.out (Ext.box _ _)))
    have g3I:¬ (8:Int) < (n3:Int):=by omega
    have HT:=Lib.hid (HSA.out.2 ⟨by omega,by omega,by omega,by omega⟩)
    clear g0 g1 g2 g3
    go_light
    go_wp2;go_roundw
    case rel=>exact ⟨k + 1,by omega,by go_num,fun j hj=>by
     by_cases hjk:j = k
     . rw [hjk]; exact HT.out
     . exact HALL.out j (by omega),Ext.trans HXR.out (Ext.box _ _)⟩
    case measure=>simp [intOf]; omega
  . have hkI:¬ (k:Int) < s.members.length:=by omega
    have hke:k = s.members.length:=by omega
    subst hke;have HT:=Lib.hid (HOK.out HALL.out);go_wp2;go_ret;exact Z7q HT.out (HXW.out.trans HXR.out)
structure Z7b (p:List Rul):Prop where
 rules:p.length <= 49
 each:∀ i,i < p.length -> (Q0l p i).length <= 8
structure Z7c (l:List Grp):Prop where
 groups:l.length <= 9
 each:∀ i,i < l.length -> (X7c l i).length <= 9
end Go.Proofs
namespace Go.Proofs
open Go.RowKit Go.Tw Go.Flow
attribute [local go_sem] Oper.semAt_some
def a3 (a b c:Int):Array Value:=#[.int .i64 a,.int .i64 b,.int .i64 c]
theorem Z3p (a b c:Int) (w:World):∀ i,i < 3 -> (part 3 (a3 a b c) (i * 1)).run Tryz.prog w = .ok (.int .i64 (ix [a,b,c] i)) w
 | 0,_=>by kernel_rfl
 | 1,_=>by kernel_rfl
 | 2,_=>by kernel_rfl
theorem X6x (a b c a' b' c':Int) (d:Nat) (w:World):∀ is:List Nat,(∀ i ∈ is,i < 3) -> (Op.eqItems (d + 1) 3 1 (a3 a b c) (a3 a' b' c') is).run Tryz.prog w = .ok (is.all fun i=>ix [a,b,c] i == ix [a',b',c'] i) w
 | [],_=>rfl
 | i :: is,h=>by
   have hi:=h i (List.mem_cons_self ..);have ih:=X6x a b c a' b' c' d w is (fun j hj=>h j (List.mem_cons_of_mem _ hj));rw [Op.eqItems];simp only [Sem.run_bind,Z3p _ _ _ _ i hi,Result.andThen_ok,run_equalIn_int w d 3 .i64 .i64 _ _ Tryz.underlying3];cases hq:(ix [a,b,c] i == ix [a',b',c'] i) with
   | true=>simp [ih,hq]
   | false=>simp [hq]
theorem Y5n (w:World) (a b c a' b' c':Int):(binOp .eql 203 (.agg (a3 a b c)) (.agg (a3 a' b' c'))).run Tryz.prog w = .ok (.bool (a == a' && (b == b' && c == c'))) w:=by
 obtain ⟨i,hi⟩:∃ i,Tryz.prog.info? 3 = some i:=by
  have h:=Tryz.info3;cases hh:Tryz.prog.info? 3 with
  | none=>rw [hh] at h; cases h
  | some i=>exact ⟨i,rfl⟩
 have hu:Tryz.prog.underlying 203 = some (.array 3 3):=by kernel_rfl
 have hc:Tryz.prog.cellsOf 3 = 1:=by kernel_rfl
 rw [run_eql_struct,show (10000:Nat) = 9998 + 1 + 1 from rfl,run_equalIn_array w (9998 + 1) _ _ hu hi,hc,X6x a b c a' b' c' 9998 w _ (fun i hi=>List.mem_range.1 hi)]
 have e:(List.range 3).all (fun i=>ix [a,b,c] i == ix [a',b',c'] i) = (a == a' && (b == b' && c == c')):=by
  rw [show List.range 3 = [0,1,2] from rfl]
  simp [ix]
 rw [e];rfl
theorem Y4y (w:World) (a b c a' b' c':Int):(binOp .neq 203 (.agg (a3 a b c)) (.agg (a3 a' b' c'))).run Tryz.prog w = .ok (.bool (!(a == a' && (b == b' && c == c')))) w:=by
 have h:=Y5n w a b c a' b' c';rw [run_eql_struct] at h;rw [run_neq_struct];generalize (Op.equalIn 10000 203 (.agg (a3 a b c)) (.agg (a3 a' b' c'))).run Tryz.prog w = r at h ⊢;cases r with
 | ok x w1 =>
   simp only [Result.andThen_ok] at h ⊢;injection h with h1 h2;injection h1 with h1;rw [h1,h2]
 | _=>simp [Result.andThen] at h
theorem Tryz.Y6z:Tryz.prog.eqGuardType Tryz.prog.depth 203 = false:=by kernel_rfl
theorem Y0d {w:World} {o:Oper} {a:Act} (x y:Operand) {T2:TypeId} (hop:o.op = .binOp .neq 203 x y T2) {b c d b' c' d':Int} (hx:a.eval x = .agg (a3 b c d)) (hy:a.eval y = .agg (a3 b' c' d')):(execOp a.eval o).run Tryz.prog w = .ok (.value (.bool (!(b == b' && (c == c' && d == d'))))) w:=by
 unfold execOp;simp only [hop,hx,hy,Sem.run_bind,run_eqGuard_agg w .neq 203 x y _ _ Tryz.Y6z,Result.andThen_ok,Y4y,Sem.run_pure]
theorem Tryz.Z6w (w:World):(isAgg 203).run Tryz.prog w = .ok true w:=by kernel_rfl
theorem Tryz.Z4s (w:World):(sizeOf 203).run Tryz.prog w = .ok 3 w:=by kernel_rfl
theorem Q0i (x:Int) (l:List Int):Q0h (x :: l) = if x = 0 then Q0h l else x:=rfl
theorem X1j (e:Int):Q0t true e = e:=rfl
theorem X0y (e:Int):Q0t false e = 0:=rfl
theorem Z0j (s:Q0c) (p1 p2 p3 p4:Bool) (h1:((s.ships.length:Int) == 0) = p1) (h2:decide (6 < (s.ships.length:Int)) = p2) (h3:((s.members.length:Int) == 0) = p3) (h4:decide (8 < (s.members.length:Int)) = p4) {E:Int}
    (hE:Q0h [Q0e s.limit 0 1024,Q0t p1 12,Q0t p2 5,Q0k s.ships 1000,Q0t p3 12,Q0t p4 5] = E):s.err = if E = 0 then Q2x s.Q2i s.members.length 0 else E:=by
 have d1:p1 = true ↔ s.ships.length = 0:=by rw [<- h1,beq_iff_eq]; omega
 have d2:p2 = true ↔ 6 < s.ships.length:=by rw [<- h2,decide_eq_true_iff]; omega
 have d3:p3 = true ↔ s.members.length = 0:=by rw [<- h3,beq_iff_eq]; omega
 have d4:p4 = true ↔ 8 < s.members.length:=by rw [<- h4,decide_eq_true_iff]; omega
 clear h1 h2 h3 h4
 by_cases c0:Q0e s.limit 0 1024 = 0
 . rw [Q0i,if_pos c0] at hE
   by_cases c1:s.ships.length = 0
   . rw [Q0i,d1.2 c1,X1j] at hE
     rw [Y4b c0 c1,<- hE]; rfl
   . have e1:p1 = false:=by cases p1 with | true=>exact absurd (d1.1 rfl) c1 | false=>rfl
     rw [Q0i,e1,X0y,if_pos rfl] at hE
     by_cases c2:6 < s.ships.length
     . rw [Q0i,d2.2 c2,X1j] at hE
       rw [Y4c c0 c1 c2,<- hE]; rfl
     . have e2:p2 = false:=by cases p2 with | true=>exact absurd (d2.1 rfl) c2 | false=>rfl
       rw [Q0i,e2,X0y,if_pos rfl] at hE
       by_cases c3:Q0k s.ships 1000 = 0
       . rw [Q0i,if_pos c3] at hE
         rw [X4t c0 c1 c2 c3]
         by_cases c4:s.members.length = 0
         . rw [Q0i,d3.2 c4,X1j] at hE
           rw [if_pos c4,<- hE]; rfl
         . have e3:p3 = false:=by cases p3 with | true=>exact absurd (d3.1 rfl) c4 | false=>rfl
           rw [Q0i,e3,X0y,if_pos rfl] at hE;rw [if_neg c4]
           by_cases c5:8 < s.members.length
           . rw [Q0i,d4.2 c5,X1j] at hE
             rw [if_pos c5,<- hE]; rfl
           . have e4:p4 = false:=by cases p4 with | true=>exact absurd (d4.1 rfl) c5 | false=>rfl
             rw [Q0i,e4,X0y,if_pos rfl] at hE;rw [if_neg c5,<- hE]; rfl
       . rw [Q0i,if_neg c3] at hE
         rw [X9g c0 c1 c2 c3,<- hE,if_neg c3,Q6t c3]
 . rw [Q0i,if_neg c0] at hE
   rw [<- hE,if_neg c0,Y0z c0,Q4p c0]
theorem X9j (s:Q0c) (i:Nat) (sh:Bool) (hsh:(!(((Q0f s.members i).length:Int) == (s.ships.length:Int) && (((Q0n s.members i).length:Int) == (s.ships.length:Int) && ((Q0v s.members i).length:Int) == (s.ships.length:Int)))) = sh) {A B:Int}
    (hA:Q0h [Q0t (!nameB (Q1g s.members i)) 8,Q0t (Q2p s.members i) 9,Q0e (Q1c s.members i) 1 1000,Q0t sh 2] = A) (hB:Q0h [Q0k (Q0f s.members i) 9,Q0k (Q0n s.members i) 1024,Q0k (Q0v s.members i) 1024] = B):s.Q2i i = if A = 0 then B else A:=by
 have d:sh = false ↔ ((Q0f s.members i).length = s.ships.length /\ (Q0n s.members i).length = s.ships.length /\ (Q0v s.members i).length = s.ships.length):=by
  rw [<- hsh,Bool.not_eq_false',Bool.and_eq_true,Bool.and_eq_true,beq_iff_eq,beq_iff_eq,beq_iff_eq]; omega
 clear hsh;cases hn:nameB (Q1g s.members i) with
 | false =>
   rw [hn,Bool.not_false,X1j,Q0i] at hA;rw [X3h hn,<- hA]; rfl
 | true =>
   rw [hn,Bool.not_true,X0y,Q0i,if_pos rfl] at hA;cases ht:Q2p s.members i with
   | true =>
     rw [ht,X1j,Q0i] at hA;rw [X1u hn ht,<- hA]; rfl
   | false =>
     rw [ht,X0y,Q0i,if_pos rfl] at hA
     by_cases hw:Q0e (Q1c s.members i) 1 1000 = 0
     . rw [Q0i,if_pos hw] at hA
       cases sh with
       | true =>
         rw [X2f hn ht hw (fun h=>by have:=d.2 h; cases this),<- hA]; rfl
       | false =>
         rw [X4w hn ht hw (d.1 rfl),<- hA,hB]; rfl
     . rw [Q0i,if_neg hw] at hA
       rw [<- hA,if_neg hw,Q8y hn ht hw,Q4p hw]
theorem Q6n (w:World) (v:Value) (s:Q0c) (hv:Q0o w v s) (hs:Q3z s) :
    Calls Tryz.prog 51 #[v] w fun e w'=>e = .returned (.int .i64 s.err) /\ Ext w w':=by
 obtain ⟨a,b,rfl,h2⟩:=hv;obtain ⟨A,capa,rfl,hla,-,-⟩:=h2.ships.opened;obtain ⟨B,capb,rfl,hlb,hcapb,-⟩:=h2.members.opened;have H2:=Lib.hid h2;have HSS:=Lib.hid hs;have h7:=hs.ships;have h9:=hs.members;obtain ⟨p1,hp1⟩:∃ x,((s.ships.length:Int) == 0) = x:=⟨_,rfl⟩;obtain ⟨p2,hp2⟩:∃ x,decide (6 < (s.ships.length:Int)) = x:=⟨_,rfl⟩;obtain ⟨p3,hp3⟩:∃ x,((s.members.length:Int) == 0) = x:=⟨_,rfl⟩;obtain ⟨p4,hp4⟩:∃ x,decide (8 < (s.members.length:Int)) = x:=⟨_,rfl⟩;obtain ⟨E,hE⟩:∃ E,Q0h [Q0e s.limit 0 1024,Q0t p1 12,Q0t p2 5,Q0k s.ships 1000,Q0t p3 12,Q0t p4 5] = E:=⟨_,rfl⟩;have HE:Hid (∀ (w':World) (u:Value),Q0b w' u [Q0e s.limit 0 1024,Q0t p1 12,Q0t p2 5,Q0k s.ships 1000,Q0t p3 12,Q0t p4 5] -> Calls Tryz.prog 45 #[u] w' fun e w''=>e = .returned (.int .i64 E) /\ w' = w''):=Lib.hid (by intro w' u h; rw [<- hE]; exact first_any _ _ _ h)
 have HEH:=Lib.hid (Z0j s p1 p2 p3 p4 hp1 hp2 hp3 hp4 hE);clear h2 hE hs;go_enter Tryz.func51,Tryz.ntmps51;go_wp2_with fail;change Code.wp _ _ _ _ (w.alloc (.cells #[.int .i64 s.limit,.slice A s.ships.length capa,.slice B s.members.length capb] 74));obtain ⟨W,hWW,k0,HXW,eW⟩:=Q2q w 74 #[.int .i64 s.limit,.slice A s.ships.length capa,.slice B s.members.length capb];rw [hWW];clear hWW;have K0:=Lib.hid k0;have c0_1:=k0.cell 1;simp only [Go.Tw.gA,Go.Tw.gB,Go.Tw.gC] at c0_1;have hdr:=(Ext.refl W).drew;clear k0;go_wp2;refine Flow.Q1p [.p,.w,.w,.p,.p,.w,.p,.p,.w,.p,.w,.w,.w,.p,.w,.p,.p,.w,.p,.w,.p,.p,.w,.w,.w,.p] [0,1,2,3,4,5,6,7,8,9,10,11,12,13,14,15,16,17,18,19,20,21,22,23,24,25] [[],[0],[1],[],[3],[2,4],[],[6],[5,7],[],[9],[8,10],[11],[],[13],[14],[15],[12,16],[],[18],[19],[20],[17,21],[2,5,8,12,17,22],[22,23],[0,1,2,3,4,5,6,7,8,9,10,11,12,13,14,15,16,17,18,19,20,21,22,23,24]]
  [.c 0 (.pointer (some ⟨w.heap.size,0,none⟩)),.c 1 (.int .i64 s.limit),.c 2 (.int .i64 (Q0e s.limit 0 1024)),.c 3 (.int .i64 (s.ships.length:Int)),.c 4 (.bool p1),.c 5 (.int .i64 (Q0t p1 12)),.c 6 (.int .i64 (s.ships.length:Int)),.c 7 (.bool p2),.c 8 (.int .i64 (Q0t p2 5)),.c 9 (.pointer (some ⟨w.heap.size,1,none⟩)),.c 10 (.slice A s.ships.length capa),⟨fun v wz=>(fun v w'=>Q0b w' (v 11) (s.ships.map fun x=>Q0e x 0 1000)) v wz,by intro v a b hx h; exact Q0b.ext h hx⟩,.c 12 (.int .i64 (Q0k s.ships 1000)),.c 13 (.pointer (some ⟨w.heap.size,2,none⟩)),.c 14 (.slice B s.members.length capb),.c 15 (.int .i64 ((s.members.length:Nat):Int)),.c 16 (.bool p3),.c 17 (.int .i64 (Q0t p3 12)),.c 18 (.pointer (some ⟨w.heap.size,2,none⟩)),.c 19 (.slice B s.members.length capb),.c 20 (.int .i64 ((s.members.length:Nat):Int)),.c 21 (.bool p4),.c 22 (.int .i64 (Q0t p4 5)),⟨fun v wz=>Q0b wz (v 23) [Q0e s.limit 0 1024,Q0t p1 12,Q0t p2 5,Q0k s.ships 1000,Q0t p3 12,Q0t p4 5],fun _ _ _ hx h=>h.ext hx⟩,.c 24 (.int .i64 E),.c 25 (.int .i64 E)]
  (by kernel_rfl) rfl (by kernel_rfl) ⟨?g0,?g1,?g2,?g3,?g4,?g5,?g6,?g7,?g8,?g9,?g10,?g11,?g12,?g13,?g14,?g15,?g16,?g17,?g18,?g19,?g20,?g21,?g22,?g23,?g24,?g25,trivial⟩ ?post
 case g0 | g3 | g6 | g9 | g13 | g18=>
  intro v w1 hx;intro bb hbb;subst hbb;refine ⟨_,fun w=>?_,rfl⟩;go_simp
 case g1 | g10 | g14 | g19=>
  intro v w1 hx;(repeat intro (zq:v _ = _));intro bb hbb;subst hbb;have n0:w1.cell? ⟨w.heap.size,0,none⟩ = some (.int .i64 s.limit):=(K0.out.ext (hdr.trans hx)).cell 0;have n1:w1.cell? ⟨w.heap.size,1,none⟩ = some (.slice A s.ships.length capa):=(K0.out.ext (hdr.trans hx)).cell 1;have n2:w1.cell? ⟨w.heap.size,2,none⟩ = some (.slice B s.members.length capb):=(K0.out.ext (hdr.trans hx)).cell 2;intro K hK;go_simp;exact hK _ _ (Ext.refl _) rfl
 case g2=>
  intro v w1 hx;(repeat intro (zq:v _ = _));intro bb hbb;subst hbb;intro K hK;go_simp;refine Q0d (Q6v w1 s.limit) ?_;rintro e w2 ⟨rfl,rfl⟩;exact ⟨_,rfl,hK _ _ (Ext.refl _) rfl⟩
 case g4 | g7 | g15 | g16 | g20 | g21=>
  intro v w1 hx;(repeat intro (zq:v _ = _));intro bb hbb;subst hbb;refine ⟨_,fun w=>?_,rfl⟩;go_simp
 case g5 | g8 | g17 | g22=>
  intro v w1 hx;(repeat intro (zq:v _ = _));intro bb hbb;subst hbb;intro K hK;go_simp;refine Q0d (Q8v _ _ _) ?_;rintro e w2 ⟨rfl,rfl⟩;exact ⟨_,rfl,hK _ _ (Ext.refl _) rfl⟩
 case g11=>
  intro v w1 hx;(repeat intro (zq:v _ = _));intro bb hbb;subst hbb;intro K hK;go_simp;refine Q0d (X4i w1 _ s.ships (H2.out.ships.ext (HXW.out.trans (hdr.trans hx))) (by omega)) ?_
  rintro e w2 ⟨x,rfl,h1,hx2⟩;exact ⟨_,rfl,hK _ _ hx2 h1⟩
 case g12=>
  intro v w1 hx (q11:(fun v w'=>Q0b w' (v 11) (s.ships.map fun x=>Q0e x 0 1000)) v w1);intro bb hbb;subst hbb;intro K hK;go_simp;refine Q0d (first_any w1 _ _ q11) ?_;rintro e w2 ⟨rfl,rfl⟩;exact ⟨_,rfl,hK _ _ (Ext.refl _) rfl⟩
 case g23=>
  intro v w1 hx;(repeat intro (zq:v _ = _));intro bb hbb;subst hbb;intro K hK;go_simp;exact hK _ _ (Ext.box _ _) (Q2b (l:=[Q0e s.limit 0 1024,Q0t p1 12,Q0t p2 5,Q0k s.ships 1000,Q0t p3 12,Q0t p4 5]) (by simp))
 case g24=>
  intro v w1 hx (q22:v 22 = _) (q23:Q0b w1 (v 23) [Q0e s.limit 0 1024,Q0t p1 12,Q0t p2 5,Q0k s.ships 1000,Q0t p3 12,Q0t p4 5]);intro bb hbb;subst hbb;intro K hK;go_simp;refine Q0d (HE.out _ _ q23) ?_;rintro e w2 ⟨rfl,rfl⟩;exact ⟨_,rfl,hK _ _ (Ext.refl _) rfl⟩
 case g25=>
  intro v w1 hx (q0:v 0 = _) (q1:v 1 = _) (q2:v 2 = _) (q3:v 3 = _) (q4:v 4 = _) (q5:v 5 = _) (q6:v 6 = _) (q7:v 7 = _) (q8:v 8 = _) (q9:v 9 = _) (q10:v 10 = _) _ (q12:v 12 = _) (q13:v 13 = _) (q14:v 14 = _) (q15:v 15 = _) (q16:v 16 = _) (q17:v 17 = _) (q18:v 18 = _) (q19:v 19 = _) (q20:v 20 = _) (q21:v 21 = _) (q22:v 22 = _) _ (q24:v 24 = _);intro bb hbb;subst hbb;refine ⟨_,fun w=>?_,rfl⟩;go_simp
 case post =>
  intro v w1 hx (q0:v 0 = _) (q1:v 1 = _) (q2:v 2 = _) (q3:v 3 = _) (q4:v 4 = _) (q5:v 5 = _) (q6:v 6 = _) (q7:v 7 = _) (q8:v 8 = _) (q9:v 9 = _) (q10:v 10 = _) (q11:(fun v w'=>Q0b w' (v 11) (s.ships.map fun x=>Q0e x 0 1000)) v w1) (q12:v 12 = _) (q13:v 13 = _) (q14:v 14 = _) (q15:v 15 = _) (q16:v 16 = _) (q17:v 17 = _) (q18:v 18 = _) (q19:v 19 = _);(iterate 3 intro (zq:v _ = _));intro (q23:Q0b w1 (v 23) [Q0e s.limit 0 1024,Q0t p1 12,Q0t p2 5,Q0k s.ships 1000,Q0t p3 12,Q0t p4 5]);(iterate 1 intro (zq:v _ = _));intro (q25:v 25 = _);simp only [Flow.All,Flow.acts,Act.put];go_simp;have HX1:=Lib.hid (HXW.out.trans (hdr.trans hx));have HK1:=Lib.hid (K0.out.ext (hdr.trans hx));clear hx hdr c0_1 HE hp1 hp2 hp3 hp4
  by_cases hE0:E = 0
  . have hne:(E != 0) = false:=by simp [hE0]
    have HER:Hid (s.err = Q2x s.Q2i s.members.length 0):=Lib.hid (by rw [HEH.out,if_pos hE0])
    have c0_2:=HK1.out.cell 2;simp only [Go.Tw.gA,Go.Tw.gB,Go.Tw.gC] at c0_2;clear hE0 HEH;clear q0 q1 q2 q3 q4 q5 q6 q7 q8 q9 q10 q11 q12 q13 q14 q15 q16 q17 q18 q19 q23;(repeat clear zq);obtain ⟨V,rfl⟩:∃ X,X = w1:=⟨_,rfl⟩;go_wp2;clear c0_2
    go_loopw [45] (fun i wr=>∃ (k:Nat),k <= s.members.length /\ i = .int .i64 k /\ Q2x s.Q2i s.members.length k = s.err /\ Ext V wr) (fun i _=>s.members.length - (intOf i).toNat)
    case atStart=>exact ⟨0,Nat.zero_le _,rfl,HER.out.symm,Ext.refl _⟩
    case round =>
     obtain ⟨k,hk,rfl,hr,hxr⟩:=hrel;have HR:=Lib.hid hr;have HXR:=Lib.hid hxr;have HKR:=Lib.hid (HK1.out.ext hxr);clear hr HER
     by_cases hlt:k < s.members.length
     . have H3:=H2.out.ext (HX1.out.trans hxr)
       obtain ⟨_,_,hB,_,_,hc⟩:=H3.members.opened;cases hB;have HMC:Hid (∀ w',Ext wr w' -> ∀ j,j < k -> ∃ b off c1 c2 c3 c4,B = some ⟨b,off,none⟩ /\ w'.cell? ⟨b,off + j * 5,none⟩ = some (.string (Q1g s.members j)) /\ w'.cell? ⟨b,off + j * 5 + 1,none⟩ = some c1 /\ w'.cell? ⟨b,off + j * 5 + 2,none⟩ = some c2 /\ w'.cell? ⟨b,off + j * 5 + 3,none⟩ = some c3 /\ w'.cell? ⟨b,off + j * 5 + 4,none⟩ = some c4):=Lib.hid (fun w' hx j hj=>by
        obtain ⟨b',off',x',y',z',hA,_,f0,f1,f2,f3,f4,_⟩:=hc j (by omega)
        exact ⟨b',off',_,_,_,_,hA,hx.cell f0,hx.cell f1,hx.cell f2,hx.cell f3,hx.cell f4⟩)
       obtain ⟨bm,off,x,y,z,rfl,hbm,e0,e1,e2,e3,e4,hx,hy,hz,hsh⟩:=hc k hlt;obtain ⟨X,capx,rfl,hlx,-,-⟩:=hx.opened;obtain ⟨Y,capy,rfl,hly,-,-⟩:=hy.opened;obtain ⟨Z,capz,rfl,hlz,-,-⟩:=hz.opened;have hs8:=HSS.out.each k hlt;unfold Q8j at hs8;have hstep:=Q8x (f:=s.Q2i) hlt;rw [HR.out] at hstep;obtain ⟨sh,hshv⟩:∃ x,(!(((Q0f s.members k).length:Int) == (s.ships.length:Int) && (((Q0n s.members k).length:Int) == (s.ships.length:Int) && ((Q0v s.members k).length:Int) == (s.ships.length:Int)))) = x:=⟨_,rfl⟩;obtain ⟨EA,hEA⟩:∃ E,Q0h [Q0t (!nameB (Q1g s.members k)) 8,Q0t (Q2p s.members k) 9,Q0e (Q1c s.members k) 1 1000,Q0t sh 2] = E:=⟨_,rfl⟩;obtain ⟨EB,hEB⟩:∃ E,Q0h [Q0k (Q0f s.members k) 9,Q0k (Q0n s.members k) 1024,Q0k (Q0v s.members k) 1024] = E:=⟨_,rfl⟩;have hparts:=X9j s k sh hshv hEA hEB;have htw:((List.range k).any fun j=>Q1g s.members j == Q1g s.members k) = Q2p s.members k:=rfl;obtain ⟨tw,htwv⟩:∃ x,Q2p s.members k = x:=⟨_,rfl⟩;rw [htwv] at htw hEA;have HX0:=Lib.hid hx;have HY0:=Lib.hid hy;have HZ0:=Lib.hid hz;have HSH:=Lib.hid hsh;obtain ⟨nm,hnm⟩:∃ x,Q1g s.members k = x:=⟨_,rfl⟩;obtain ⟨wt,hwt⟩:∃ x,Q1c s.members k = x:=⟨_,rfl⟩;obtain ⟨lc,hlc⟩:∃ x,Q0f s.members k = x:=⟨_,rfl⟩;obtain ⟨lo,hlo⟩:∃ x,Q0n s.members k = x:=⟨_,rfl⟩;obtain ⟨li,hli⟩:∃ x,Q0v s.members k = x:=⟨_,rfl⟩;rw [hnm] at e0 HSH htw hEA hs8;rw [hwt] at e1 hEA;rw [hlc] at e2 HX0 hshv hEB hs8 hlx;rw [hlo] at e3 HY0 hshv hEB hs8 hly;rw [hli] at e4 HZ0 hshv hEB hs8 hlz;obtain ⟨nb,hnb⟩:∃ x,nameB nm = x:=⟨_,rfl⟩;rw [hnb] at hEA;have HNB:Hid (∀ w',Calls Tryz.prog 105 #[.string nm] w' fun e w''=>e = .returned (.bool nb) /\ Ext w' w''):=Lib.hid (fun w'=>by rw [<- hnb]; exact X6o w' nm HSH.out)
       have HA:Hid (∀ (w':World) (u:Value),Q0b w' u [Q0t (!nb) 8,Q0t tw 9,Q0e wt 1 1000,Q0t sh 2] -> Calls Tryz.prog 45 #[u] w' fun e w''=>e = .returned (.int .i64 EA) /\ w' = w''):=Lib.hid (by intro w' u h; rw [<- hEA]; exact first_any _ _ _ h)
       have HB:Hid (∀ (w':World) (u:Value),Q0b w' u [Q0k lc 9,Q0k lo 1024,Q0k li 1024] -> Calls Tryz.prog 45 #[u] w' fun e w''=>e = .returned (.int .i64 EB) /\ w' = w''):=Lib.hid (by intro w' u h; rw [<- hEB]; exact first_any _ _ _ h)
       have HSHV:=Lib.hid hshv;have HTW:Hid (∀ (w':World) (g cap:Nat),Ext wr w' -> w'.cell? ⟨g,0,none⟩ = some (.string nm) -> Calls Tryz.prog 103 #[.slice (some ⟨bm,off,none⟩) k cap,.func (.func 104) #[] #[.pointer (some ⟨g,0,none⟩)]] w' fun e w''=>e = .returned (.bool tw) /\ Ext w' w''):=Lib.hid (fun w' g cap hx hB=>by
        have:=Y5d w' s.members k (some ⟨bm,off,none⟩) cap g nm hB (by omega) (HMC.out w' hx)
        rwa [htw] at this)
       obtain ⟨hs60,hsc,hso,hsi⟩:=hs8;have HPARTS:=Lib.hid hparts;have HSTEP:=Lib.hid hstep;have c0_2:=HKR.out.cell 2;simp only [Go.Tw.gA,Go.Tw.gB,Go.Tw.gC] at c0_2;have hkI:(k:Int) < s.members.length:=by omega
       clear hc H3 HMC hx hy hz hsh hstep hparts hnm hwt hlc hlo hli hnb htw htwv hEA hEB hshv hlx hly hlz hbm hs60 HSH;have hbox:=Ext.box wr (.cells #[.string nm,.int .i64 wt,.slice X lc.length capx,.slice Y lo.length capy,.slice Z li.length capz] 90);have K3:=Blk.made wr 90 #[.string nm,.int .i64 wt,.slice X lc.length capx,.slice Y lo.length capy,.slice Z li.length capz];replace c0_2:=hbox.cell c0_2;have d0:=K3.cell 0;have d2:=K3.cell 2;have d3:=K3.cell 3;have d4:=K3.cell 4;simp only [Go.Tw.gA,Go.Tw.gB,Go.Tw.gC] at d0 d2 d3 d4
       go_light
       go_wp2_with (go_at_call 103; refine (HTW.out _ _ _ hbox d0).mono ?_; rintro e w4 ⟨rfl,hx4⟩; replace d2:=hx4.cell d2; replace d3:=hx4.cell d3; replace d4:=hx4.cell d4);obtain ⟨W,hWW,k0,HXW,eW⟩:=Q2q w4 203 #[.int .i64 (lc.length:Int),.int .i64 (lo.length:Int),.int .i64 (li.length:Int)];rw [hWW];clear hWW;have KB:=Lib.hid ((K3.ext hx4).ext HXW.out);have KA:=Lib.hid k0;have HXX:=Lib.hid ((HX1.out.trans hxr).trans ((hbox.trans hx4).trans HXW.out));have HWR:=Lib.hid ((hbox.trans hx4).trans HXW.out);have HXV:=Lib.hid (hxr.trans ((hbox.trans hx4).trans HXW.out));have hdr:=(Ext.refl W).drew;clear k0 K3 d0 d2 d3 d4 c0_2 hx4 hxr hbox e0 e1 e2 e3 e4 HTW;refine Flow.Q1p [.p,.w,.w,.p,.w,.p,.w,.p,.w,.w,.w,.p,.p,.p,.p,.p,.w,.w,.w,.p] [0,1,2,3,4,5,6,7,8,9,10,11,12,13,14,15,16,17,18,19] [[],[0],[1],[2],[2,3],[],[4,5],[],[7],[6,8],[],[],[],[],[11,12,13],[10,14],[9,15],[4,6,9,16],[16,17],[0,1,2,3,4,5,6,7,8,9,10,11,12,13,14,15,16,17,18]]
        [.c 0 (.pointer (some ⟨wr.heap.size,0,none⟩)),.c 1 (.string nm),.c 2 (.bool nb),.c 3 (.bool (!nb)),.c 4 (.int .i64 (Q0t (!nb) 8)),.c 5 (.bool tw),.c 6 (.int .i64 (Q0t tw 9)),.c 7 (.pointer (some ⟨wr.heap.size,1,none⟩)),.c 8 (.int .i64 wt),.c 9 (.int .i64 (Q0e wt 1 1000)),.c 10 (.agg (a3 lc.length lo.length li.length)),.c 11 (.int .i64 (s.ships.length:Int)),.c 12 (.int .i64 (s.ships.length:Int)),.c 13 (.int .i64 (s.ships.length:Int)),.c 14 (.agg #[.int .i64 (s.ships.length:Int),.int .i64 (s.ships.length:Int),.int .i64 (s.ships.length:Int)]),.c 15 (.bool sh),.c 16 (.int .i64 (Q0t sh 2)),⟨fun v wz=>Q0b wz (v 17) [Q0t (!nb) 8,Q0t tw 9,Q0e wt 1 1000,Q0t sh 2],fun _ _ _ hx h=>h.ext hx⟩,.c 18 (.int .i64 EA),.c 19 (.int .i64 EA)]
        (by kernel_rfl) rfl (by kernel_rfl) ⟨?g0,?g1,?g2,?g3,?g4,?g5,?g6,?g7,?g8,?g9,?g10,?g11,?g12,?g13,?g14,?g15,?g16,?g17,?g18,?g19,trivial⟩ ?post
       case g0 | g5 | g7 | g11 | g12 | g13=>
        intro v w1 hx;intro bb hbb;subst hbb;refine ⟨_,fun w=>?_,rfl⟩;go_simp
       case g1 | g8=>
        intro v w1 hx;(repeat intro (zq:v _ = _));intro bb hbb;subst hbb;have n0:w1.cell? ⟨wr.heap.size,0,none⟩ = some (.string nm):=(KB.out.ext (hdr.trans hx)).cell 0;have n1:w1.cell? ⟨wr.heap.size,1,none⟩ = some (.int .i64 wt):=(KB.out.ext (hdr.trans hx)).cell 1;intro K hK;go_simp;exact hK _ _ (Ext.refl _) rfl
       case g2=>
        intro v w1 hx;(repeat intro (zq:v _ = _));intro bb hbb;subst hbb;intro K hK;go_simp;refine Q0d (HNB.out w1) ?_;rintro e w2 ⟨rfl,hx2⟩;exact ⟨_,rfl,hK _ _ hx2 rfl⟩
       case g3 | g14=>
        intro v w1 hx;(repeat intro (zq:v _ = _));intro bb hbb;subst hbb;refine ⟨_,fun w=>?_,rfl⟩;go_simp
       case g4 | g6 | g16=>
        intro v w1 hx;(repeat intro (zq:v _ = _));intro bb hbb;subst hbb;intro K hK;go_simp;refine Q0d (Q8v _ _ _) ?_;rintro e w2 ⟨rfl,rfl⟩;exact ⟨_,rfl,hK _ _ (Ext.refl _) rfl⟩
       case g9=>
        intro v w1 hx;(repeat intro (zq:v _ = _));intro bb hbb;subst hbb;intro K hK;go_simp;refine Q0d (Q7g w1 wt 1 1000) ?_;rintro e w2 ⟨rfl,rfl⟩;exact ⟨_,rfl,hK _ _ (Ext.refl _) rfl⟩
       case g10=>
        intro v w1 hx;intro bb hbb;intro K hK;have o1:bb.eval (.tmp 8) = .pointer (some ⟨w4.heap.size,0,none⟩):=by rw [hbb]; dsimp only; (try simp (discharger:=decide) only [eval_put_ne]); rfl
        exact Q0s (.tmp 8) _ rfl Tryz.Z6w Tryz.Z4s o1 (KA.out.ext (hdr.trans hx)) rfl (hK _ _ (Ext.refl _) rfl)
       case g15=>
        intro v w1 hx;(repeat intro (zq:v _ = _));intro bb hbb;have o1:bb.eval (.tmp 76) = .agg (a3 lc.length lo.length li.length):=by rw [hbb]; dsimp only; (try simp (discharger:=decide) only [eval_put_ne]); rw [Q0a (by simp only [size_put]; exact (by decide:76 < 106))]; assumption
        have o2:bb.eval (.tmp 80) = .agg (a3 s.ships.length s.ships.length s.ships.length):=by rw [hbb]; dsimp only; (try simp (discharger:=decide) only [eval_put_ne]); rw [Q0a (by simp only [size_put]; exact (by decide:80 < 106))]; assumption
        exact ⟨.bool sh,fun w=>(Y0d (.tmp 76) (.tmp 80) rfl o1 o2).trans (by rw [HSHV.out]),rfl⟩
       case g17=>
        intro v w1 hx;(repeat intro (zq:v _ = _));intro bb hbb;subst hbb;intro K hK;go_simp;exact hK _ _ (Ext.box _ _) (Q2b (l:=[Q0t (!nb) 8,Q0t tw 9,Q0e wt 1 1000,Q0t sh 2]) (by simp))
       case g18=>
        intro v w1 hx (q16:v 16 = _) (q17:Q0b w1 (v 17) [Q0t (!nb) 8,Q0t tw 9,Q0e wt 1 1000,Q0t sh 2]);intro bb hbb;subst hbb;intro K hK;go_simp;refine Q0d (HA.out _ _ q17) ?_;rintro e w2 ⟨rfl,rfl⟩;exact ⟨_,rfl,hK _ _ (Ext.refl _) rfl⟩
       case g19=>
        intro v w1 hx (q0:v 0 = _) (q1:v 1 = _) (q2:v 2 = _) (q3:v 3 = _) (q4:v 4 = _) (q5:v 5 = _) (q6:v 6 = _) (q7:v 7 = _) (q8:v 8 = _) (q9:v 9 = _) (q10:v 10 = _) (q11:v 11 = _) (q12:v 12 = _) (q13:v 13 = _) (q14:v 14 = _) (q15:v 15 = _) (q16:v 16 = _) _ (q18:v 18 = _);intro bb hbb;subst hbb;refine ⟨_,fun w=>?_,rfl⟩;go_simp
       case post =>
        intro v w1 hx (q0:v 0 = _) (q1:v 1 = _) (q2:v 2 = _) (q3:v 3 = _) (q4:v 4 = _) (q5:v 5 = _) (q6:v 6 = _) (q7:v 7 = _) (q8:v 8 = _) (q9:v 9 = _) (q10:v 10 = _) (q11:v 11 = _) (q12:v 12 = _) (q13:v 13 = _) (q14:v 14 = _);(iterate 2 intro (zq:v _ = _));intro (q17:Q0b w1 (v 17) [Q0t (!nb) 8,Q0t tw 9,Q0e wt 1 1000,Q0t sh 2]);(iterate 1 intro (zq:v _ = _));intro (q19:v 19 = _);simp only [Flow.All,Flow.acts,Act.put];go_simp;have HX2:=Lib.hid (hdr.trans hx);clear hx hdr q0 q1 q2 q3 q4 q5 q6 q7 q8 q9 q10 q11 q12 q13 q14 q17 HA HNB HSHV KA;(repeat clear zq)
        by_cases ha:EA = 0
        . have hna:(EA != 0) = false:=by simp [ha]
          have HPB:Hid (s.Q2i k = EB):=Lib.hid (by rw [HPARTS.out,if_pos ha])
          have HK9:=Lib.hid (KB.out.ext HX2.out);have HX9:=Lib.hid (HXX.out.trans HX2.out);have HV9:=Lib.hid (HXV.out.trans HX2.out);have HWR9:=Lib.hid (HWR.out.trans HX2.out);have hdr:=(Ext.refl w1).drew;clear ha HPARTS KB HXX HX2 HXV;obtain ⟨U,rfl⟩:∃ X,X = w1:=⟨_,rfl⟩;go_wp2;refine Flow.Q1p [.p,.w,.w,.w,.p,.w,.w,.w,.p,.w,.w,.w,.w,.w,.p] [0,1,2,3,4,5,6,7,8,9,10,11,12,13,14] [[],[0],[1],[2],[],[4],[3,5],[6],[],[8],[7,9],[10],[3,7,11],[11,12],[0,1,2,3,4,5,6,7,8,9,10,11,12,13]]
           [.c 0 (.pointer (some ⟨wr.heap.size,2,none⟩)),.c 1 (.slice X lc.length capx),⟨fun v wz=>(fun v w'=>Q0b w' (v 2) (lc.map fun x=>Q0e x 0 9)) v wz,by intro v a b hx h; exact Q0b.ext h hx⟩,.c 3 (.int .i64 (Q0k lc 9)),.c 4 (.pointer (some ⟨wr.heap.size,3,none⟩)),.c 5 (.slice Y lo.length capy),⟨fun v wz=>(fun v w'=>Q0b w' (v 6) (lo.map fun x=>Q0e x 0 1024)) v wz,by intro v a b hx h; exact Q0b.ext h hx⟩,.c 7 (.int .i64 (Q0k lo 1024)),.c 8 (.pointer (some ⟨wr.heap.size,4,none⟩)),.c 9 (.slice Z li.length capz),⟨fun v wz=>(fun v w'=>Q0b w' (v 10) (li.map fun x=>Q0e x 0 1024)) v wz,by intro v a b hx h; exact Q0b.ext h hx⟩,.c 11 (.int .i64 (Q0k li 1024)),⟨fun v wz=>Q0b wz (v 12) [Q0k lc 9,Q0k lo 1024,Q0k li 1024],fun _ _ _ hx h=>h.ext hx⟩,.c 13 (.int .i64 EB),.c 14 (.int .i64 EB)]
           (by kernel_rfl) rfl (by kernel_rfl) ⟨?g0,?g1,?g2,?g3,?g4,?g5,?g6,?g7,?g8,?g9,?g10,?g11,?g12,?g13,?g14,trivial⟩ ?post
          case g0 | g4 | g8=>
           intro v w1 hx;intro bb hbb;subst hbb;refine ⟨_,fun w=>?_,rfl⟩;go_simp
          case g1 | g5 | g9=>
           intro v w1 hx;(repeat intro (zq:v _ = _));intro bb hbb;subst hbb;have n0:w1.cell? ⟨wr.heap.size,2,none⟩ = some (.slice X lc.length capx):=(HK9.out.ext (hdr.trans hx)).cell 2;have n1:w1.cell? ⟨wr.heap.size,3,none⟩ = some (.slice Y lo.length capy):=(HK9.out.ext (hdr.trans hx)).cell 3;have n2:w1.cell? ⟨wr.heap.size,4,none⟩ = some (.slice Z li.length capz):=(HK9.out.ext (hdr.trans hx)).cell 4;intro K hK;go_simp;exact hK _ _ (Ext.refl _) rfl
          case g2=>
           intro v w1 hx;(repeat intro (zq:v _ = _));intro bb hbb;subst hbb;intro K hK;go_simp;refine Q0d (X4r w1 _ lc (HX0.out.ext (HWR9.out.trans (hdr.trans hx))) (by omega)) ?_
           rintro e w2 ⟨x,rfl,h1,hx2⟩;exact ⟨_,rfl,hK _ _ hx2 h1⟩
          case g3=>
           intro v w1 hx (q2:(fun v w'=>Q0b w' (v 2) (lc.map fun x=>Q0e x 0 9)) v w1);intro bb hbb;subst hbb;intro K hK;go_simp;refine Q0d (first_any w1 _ _ q2) ?_;rintro e w2 ⟨rfl,rfl⟩;exact ⟨_,rfl,hK _ _ (Ext.refl _) rfl⟩
          case g6=>
           intro v w1 hx;(repeat intro (zq:v _ = _));intro bb hbb;subst hbb;intro K hK;go_simp;refine Q0d (Q6l w1 _ lo (HY0.out.ext (HWR9.out.trans (hdr.trans hx))) (by omega)) ?_
           rintro e w2 ⟨x,rfl,h1,hx2⟩;exact ⟨_,rfl,hK _ _ hx2 h1⟩
          case g7=>
           intro v w1 hx (q6:(fun v w'=>Q0b w' (v 6) (lo.map fun x=>Q0e x 0 1024)) v w1);intro bb hbb;subst hbb;intro K hK;go_simp;refine Q0d (first_any w1 _ _ q6) ?_;rintro e w2 ⟨rfl,rfl⟩;exact ⟨_,rfl,hK _ _ (Ext.refl _) rfl⟩
          case g10=>
           intro v w1 hx;(repeat intro (zq:v _ = _));intro bb hbb;subst hbb;intro K hK;go_simp;refine Q0d (Q6l w1 _ li (HZ0.out.ext (HWR9.out.trans (hdr.trans hx))) (by omega)) ?_
           rintro e w2 ⟨x,rfl,h1,hx2⟩;exact ⟨_,rfl,hK _ _ hx2 h1⟩
          case g11=>
           intro v w1 hx (q10:(fun v w'=>Q0b w' (v 10) (li.map fun x=>Q0e x 0 1024)) v w1);intro bb hbb;subst hbb;intro K hK;go_simp;refine Q0d (first_any w1 _ _ q10) ?_;rintro e w2 ⟨rfl,rfl⟩;exact ⟨_,rfl,hK _ _ (Ext.refl _) rfl⟩
          case g12=>
           intro v w1 hx;(repeat intro (zq:v _ = _));intro bb hbb;subst hbb;intro K hK;go_simp;exact hK _ _ (Ext.box _ _) (Q2b (l:=[Q0k lc 9,Q0k lo 1024,Q0k li 1024]) (by simp))
          case g13=>
           intro v w1 hx (q11:v 11 = _) (q12:Q0b w1 (v 12) [Q0k lc 9,Q0k lo 1024,Q0k li 1024]);intro bb hbb;subst hbb;intro K hK;go_simp;refine Q0d (HB.out _ _ q12) ?_;rintro e w2 ⟨rfl,rfl⟩;exact ⟨_,rfl,hK _ _ (Ext.refl _) rfl⟩
          case g14=>
           intro v w1 hx (q0:v 0 = _) (q1:v 1 = _) _ (q3:v 3 = _) (q4:v 4 = _) (q5:v 5 = _) _ (q7:v 7 = _) (q8:v 8 = _) (q9:v 9 = _) _ (q11:v 11 = _) _ (q13:v 13 = _);intro bb hbb;subst hbb;refine ⟨_,fun w=>?_,rfl⟩;go_simp
          case post =>
           intro v w1 hx;(iterate 2 intro (zq:v _ = _));intro (q2:(fun v w'=>Q0b w' (v 2) (lc.map fun x=>Q0e x 0 9)) v w1);(iterate 3 intro (zq:v _ = _));intro (q6:(fun v w'=>Q0b w' (v 6) (lo.map fun x=>Q0e x 0 1024)) v w1);(iterate 3 intro (zq:v _ = _));intro (q10:(fun v w'=>Q0b w' (v 10) (li.map fun x=>Q0e x 0 1024)) v w1);(iterate 1 intro (zq:v _ = _));intro (q12:Q0b w1 (v 12) [Q0k lc 9,Q0k lo 1024,Q0k li 1024]);(iterate 1 intro (zq:v _ = _));intro (q14:v 14 = _);simp only [Flow.All,Flow.acts,Act.put];go_simp;have HX2:=Lib.hid (hdr.trans hx);clear hx hdr q2 q6 q10 q12;(repeat clear zq)
           by_cases hb:EB = 0
           . have hnb:(EB != 0) = false:=by simp [hb]
             have HST:Hid (Q2x s.Q2i s.members.length (k + 1) = s.err):=Lib.hid (by rw [HSTEP.out,HPB.out,if_pos hb])
             clear hb;go_wp2;go_roundw
             case rel=>exact ⟨k + 1,by omega,by go_num,HST.out,HV9.out.trans HX2.out⟩
             case measure=>simp [intOf]; omega
           . have hnb:(EB != 0) = true:=by simp [hb]
             have HST:Hid (s.err = EB):=Lib.hid (by rw [HSTEP.out,HPB.out,if_neg hb])
             clear hb;go_wp2;go_ret;exact ⟨Q0q HST.out.symm,HX9.out.trans HX2.out⟩
        . have hna:(EA != 0) = true:=by simp [ha]
          have HST:Hid (s.err = EA):=Lib.hid (by rw [HSTEP.out,HPARTS.out,if_neg ha,if_neg ha])
          clear ha;go_wp2;go_ret;exact ⟨Q0q HST.out.symm,HXX.out.trans HX2.out⟩
     . go_wp2
       go_ret;exact ⟨Q0q (by rw [<- HR.out,X1y (by omega)]),HX1.out.trans hxr⟩
  . have hne:(E != 0) = true:=by simp [hE0]
    have HER:Hid (s.err = E):=Lib.hid (by rw [HEH.out,if_neg hE0])
    clear hE0 HEH;go_wp2;go_ret;exact ⟨Q0q HER.out.symm,HX1.out⟩
end Go.Proofs
namespace Go.Proofs
open Go.RowKit Go.Tw Go.Flow
def Y1b (w:World) (g off:Nat) (sub:Array Value):Prop:=∀ k (hk:k < sub.size),w.cell? ⟨g,off + k,none⟩ = some sub[k]
theorem Y1b.ext {w w':World} {g off:Nat} {sub:Array Value} (h:Y1b w g off sub) (hx:Ext w w'):Y1b w' g off sub:=fun k hk=>hx.cell (h k hk)
theorem X7p {P:Program} {w:World} {g off:Nat} {cs:Array Value} (h:Y1b w g off cs):(loadCells ⟨g,off,none⟩ cs.size).run P w = .ok cs w:=by
 have gen:∀ (n i:Nat) (acc:Array Value),i + n = cs.size -> acc.toList = cs.toList.take i -> (loadCellsFrom ⟨g,off,none⟩ i n acc).run P w = .ok cs w:=by
  intro n
  induction n with
  | zero =>
    intro i acc hi ha;have:acc = cs:=by
     apply Array.toList_inj.1
     rw [ha,List.take_of_length_le (by simp; omega)]
    subst this;simp [loadCellsFrom]
  | succ n ih =>
    intro i acc hi ha;have hlt:i < cs.size:=by omega
    have h0:=h i hlt;have ea:(⟨g,off,none⟩:Addr).add i = ⟨g,off + i,none⟩:=by rw [addr_add]
    rw [loadCellsFrom,ea];simp only [Sem.run_bind,load,Sem.run,h0,Result.andThen_ok];refine ih (i + 1) _ (by omega) ?_
    rw [Array.toList_push,ha,<- Array.getElem_toList (by simpa using hlt),List.take_append_getElem]
 exact gen cs.size 0 #[] (by omega) (by simp)
theorem X0i {P:Program} {w:World} {g off:Nat} {T:TypeId} {cs:Array Value} (h:Y1b w g off cs) (hA:∀ w,(isAgg T).run P w = .ok true w) (hS:∀ w,(sizeOf T).run P w = .ok cs.size w):(loadVar T ⟨g,off,none⟩).run P w = .ok (.agg cs) w:=by
 unfold loadVar;simp only [Sem.run_bind,hA,Result.andThen_ok,if_true,hS,X7p h,Sem.run_pure]
theorem X2r {P:Program} {w:World} {o:Oper} {a:Act} {p:Operand} {T:TypeId} {g off:Nat} {cs:Array Value} (hop:o.op = .load T p) (hA:∀ w,(isAgg T).run P w = .ok true w) (hS:∀ w,(sizeOf T).run P w = .ok cs.size w) (hp:a.eval p = .pointer (some ⟨g,off,none⟩)) (h:Y1b w g off cs):(execOp a.eval o).run P w = .ok (.value (.agg cs)) w:=by
 unfold execOp;simp only [hop,hp,Instr.loadAt,Instr.sureAddr,Sem.run_bind,Sem.run_pure,Result.andThen_ok,X0i h hA hS]
theorem Q5r {P:Program} {w:World} {ops:Array Oper} {rest:List Oper} {o:Oper} {a:Act} {Q:Exit -> Act -> World -> Prop} (hg:o.guard = none) (p:Operand) (T:TypeId) (hop:o.op = .load T p)
    (hA:∀ w,(isAgg T).run P w = .ok true w) {n:Nat} (hS:∀ w,(sizeOf T).run P w = .ok n w) {g off:Nat} (hp:a.eval p = .pointer (some ⟨g,off,none⟩)) {cs:Array Value} (hb:Y1b w g off cs) (hn:cs.size = n)
    (hK:wpList P ops Q rest (a.put o.dst (.agg cs)) w):wpList P ops Q (o :: rest) a w:=by
 subst hn;refine wpList_plain hg fun K' hK'=>?_;unfold Oper.wp;rw [X2r hop hA hS hp hb];exact hK' _ _ hK
end Go.Proofs
namespace Go.Tw
open Go.RowKit Go.Flow Go.Ba
structure Y0s (l:Q4r) (n:Nat):Prop where
 kind:Y6c l.kind ≠ none
 src:if Go.Proofs.Z2b l.kind then l.src = -1 else 0 <= l.src /\ l.src < n
 dst:if Go.Proofs.Z1s l.kind then l.dst = -1 else 0 <= l.dst /\ l.dst < n
 ring:l.src ≠ l.dst
 lev:0 <= l.lev /\ l.lev <= (if Go.Proofs.Z2b l.kind && !Go.Proofs.Z1s l.kind then 0 else 1024)
 rate:1 <= l.rate /\ l.rate <= 1000
def IsTable (w:World) (v:Value):Prop:=∃ b,v = .map (some b) /\ Q1m w b Go.Proofs.X2a
theorem IsTable.ext {w w':World} {v:Value} (h:IsTable w v) (hx:Ext w w'):IsTable w' v:=let ⟨b,e,m⟩:=h; ⟨b,e,m.ext hx⟩
end Go.Tw
namespace Go.Proofs
open Go.RowKit Go.Tw Go.Flow Go.Ba
attribute [local go_sem] Oper.semAt_some
theorem Q9o (w:World) (b:Bool) (x:Int) (h:b = false):Calls Tryz.prog 36 #[.bool b,.int .i64 x] w fun e w'=>e = .returned (.int .i64 0) /\ w = w':=by
 subst h; exact X4e w false x
theorem Q7f (w:World) (x a b:Int) (h:a <= x /\ x <= b):Calls Tryz.prog 71 #[.int .i64 x,.int .i64 a,.int .i64 b] w fun e w'=>e = .returned (.int .i64 0) /\ w = w':=by
 have:=Q6g w x a b
 rwa [Q2j.2 h] at this
theorem Q8i:∀ {l:List Int},(∀ x ∈ l,x = 0) -> Q0h l = 0
 | [],_=>rfl
 | x :: l,h=>by rw [Q0i,if_pos (h x (by simp))]; exact Q8i fun y hy=>h y (by simp [hy])
theorem Q5g (w:World) (v:Value) (l:List Int) (hv:Q0b w v l) (h:∀ x ∈ l,x = 0):Calls Tryz.prog 75 #[v] w fun e w'=>e = .returned (.int .i64 0) /\ w = w':=by
 have:=Q9t w v l hv
 rwa [Q8i h] at this
theorem Q3t {P:Program} {o:Oper} {a:Act} (x:Operand) (i:Nat) (ho:o.op = .extract x i) {vs:Array Value} {u:Value} (hx:a.eval x = .tuple vs) (hv:vs[i]? = some u) (w:World):(execOp a.eval o).run P w = .ok (.value u) w:=by
 unfold execOp;simp only [ho,hx,Instr.extract,hv,Sem.run_bind,Sem.run_pure,Result.andThen_ok]
theorem Q6j {P:Program} {K:Value -> World -> Prop} {o:Oper} {a:Act} {w:World} (x:Operand) (ho:o.op = .assign x) {u:Value} (hx:a.eval x = u) (h:K u w):gives P K ((execOp a.eval o).run P w):=by
 unfold execOp;simp only [ho,hx,Sem.run_pure];exact h
theorem Q6y {P:Program} {w:World} {ops:Array Oper} {rest:List Oper} {o:Oper} {a:Act} {Q:Exit -> Act -> World -> Prop} (hg:o.guard = none) (x y:Operand) (T T2:TypeId) (hop:o.op = .binOp .eql T x y T2) {xs ys:Array Value} (hx:a.eval x = .agg xs) (hy:a.eval y = .agg ys)
    {r:Bool} (hr:∀ w,(binOp .eql T (.agg xs) (.agg ys)).run P w = .ok (.bool r) w) (hm:P.eqGuardType P.depth T = false) (hK:wpList P ops Q rest (a.put o.dst (.bool r)) w):wpList P ops Q (o :: rest) a w:=by
 refine wpList_plain hg fun K' hK'=>?_;unfold Oper.wp;have hr2:(execOp a.eval o).run P w = .ok (.value (.bool r)) w:=by
  unfold execOp;simp only [hop,hx,hy,Sem.run_bind,run_eqGuard_agg w .eql T x y xs ys hm,Result.andThen_ok,hr,Sem.run_pure]
 rw [hr2];exact hK' _ _ hK
theorem Tryz.Y1f:Tryz.prog.eqGuardType Tryz.prog.depth 270 = false:=by kernel_rfl
theorem Tryz.Z7g (A B:Bool) (w:World):(binOp .eql 270 (.agg #[.bool A,.bool B]) (.agg #[.bool true,.bool false])).run Tryz.prog w = .ok (.bool (A && !B)) w:=by
 cases A <;> cases B <;> kernel_rfl
theorem Tryz.Z2r (w:World):(Instr.build 270 #[(0,.bool true),(1,.bool false)]).run Tryz.prog w = .ok (.agg #[.bool true,.bool false]) w:=by kernel_rfl
theorem X8t {w:World} {o:Oper} {A:Act} (hop:o.op = .build 270 #[(0,.const (.bool true)),(1,.const (.bool false))]):(execOp A.eval o).run Tryz.prog w = .ok (.value (.agg #[.bool true,.bool false])) w:=by
 unfold execOp;have e1:A.eval (.const (.bool true)) = .bool true:=rfl;have e2:A.eval (.const (.bool false)) = .bool false:=rfl;simp only [hop,List.map_toArray,List.map_cons,List.map_nil,e1,e2,Sem.run_bind,Tryz.Z2r,Result.andThen_ok,Sem.run_pure]
theorem Q6s {w:World} {ops:Array Oper} {rest:List Oper} {o:Oper} {a:Act} {Q:Exit -> Act -> World -> Prop} (hg:o.guard = none) (hop:o.op = .build 270 #[(0,.const (.bool true)),(1,.const (.bool false))])
    (hK:wpList Tryz.prog ops Q rest (a.put o.dst (.agg #[.bool true,.bool false])) w):wpList Tryz.prog ops Q (o :: rest) a w:=by
 refine wpList_plain hg fun K' hK'=>?_;unfold Oper.wp;rw [X8t hop];exact hK' _ _ hK
theorem Y7m {w:World} {g:Nat} {T:TypeId} {a b c:Value} (h:Blk w g T #[a,b,c]):Y1b w g 0 #[a,b]:=by
 intro k hk;have hk':k < 2:=hk;rw [Nat.zero_add,h.cell]
 match k,hk' with
 | 0,_=>rfl
 | 1,_=>rfl
theorem Tryz.Z4q (w:World):(sizeOf 273).run Tryz.prog w = .ok 3 w:=by kernel_rfl
theorem X8j (w:World) (l:Q4r) (n:Nat) (h:Y0s l n) :
    Calls Tryz.prog 142 #[lkV l.kind l.src l.dst l.lev l.rate,.int .i64 n] w fun e w'=>e = .returned (.int .i64 0) /\ Ext w w':=by
 obtain ⟨kd,lf,lt,la,lr⟩:=l;obtain ⟨hk,ha,hb,hr,hl,hq⟩:=h;dsimp only at hk ha hb hr hl hq ⊢;obtain ⟨A,hA⟩:∃ z,Z2b kd = z:=⟨_,rfl⟩;obtain ⟨B,hB⟩:∃ z,Z1s kd = z:=⟨_,rfl⟩;obtain ⟨F,hF⟩:∃ z,X0c kd = z:=⟨_,rfl⟩;have hfd:=X6q hk;rw [hA,hB,hF] at hfd;rw [hA] at ha hl;rw [hB] at hb hl;have HFD:=Lib.hid hfd;have HA:=Lib.hid ha;have HB:=Lib.hid hb;have HR:=Lib.hid hr;have HL:=Lib.hid hl;have HQ:=Lib.hid hq;clear hk ha hb hr hl hq hfd hA hB hF;go_enter Tryz.func142,Tryz.ntmps142;go_upto_region 1 with fail;obtain ⟨W,hWW,k0,k1,HXW,eW⟩:=Q5t w 106 #[.string kd,.int .i64 lf,.int .i64 lt,.int .i64 la,.int .i64 lr] 3 #[.int .i64 n];rw [hWW];clear hWW;obtain ⟨g,hg⟩:∃ z,w.heap.size = z:=⟨_,rfl⟩;rw [hg] at k0 k1 eW ⊢;have K0:=Lib.hid k0;have K1:=Lib.hid k1;have hdr:=(Ext.refl W).drew;have HGW:Hid (g + 1 < W.heap.size):=Lib.hid k1.lt;clear k0 k1 hg eW;have HR1:True:=trivial;refine Flow.Q4k [.w,.p,.w,.w,.p,.p,.p,.w,.last,.last] [0,1,2,3,4,5,6,7,8,9] [[],[],[1],[0,1,2],[0,1,2,3],[0,1,2,3,4],[0,1,2,3,4],[],[0,1,2,3,4,5,7],[0,1,2,3,4,5,6,7,8]] [8,9]
  [⟨fun v wz=>(fun v w'=>IsTable w' (v 0)) v wz,fun _ _ _ hx h=>IsTable.ext h hx⟩,.c 1 (.pointer (some ⟨g,0,none⟩)),.c 2 (.string kd),.c 3 (.tuple #[kdV A B F,.bool true]),.c 4 (.tuple #[kdV A B F,.bool true]),.c 5 (kdV A B F),.c 6 (.bool true),⟨fun v wz=>(fun v w'=>∃ gk,v 7 = .pointer (some ⟨gk,0,none⟩) /\ W.heap.size <= gk /\ Blk w' gk 273 #[.bool false,.bool false,.nilFunc]) v wz,by rintro v a b hx ⟨g,h1,h2,h3⟩; exact ⟨g,h1,h2,h3.ext hx⟩⟩,.none,.none]
  [fun v w1 w'=>∃ gk,v 7 = .pointer (some ⟨gk,0,none⟩) /\ W.heap.size <= gk /\ Blk w' gk 273 #[.bool A,.bool B,.func (.func F) #[] #[]] /\ Below gk w1 w',fun v w1 w'=>(∃ gk,v 7 = .pointer (some ⟨gk,0,none⟩) /\ W.heap.size <= gk /\ Blk w' gk 273 #[.bool A,.bool B,.func (.func F) #[] #[]] /\ Below gk w1 w') /\ v 9 = .bool true] (by kernel_rfl) rfl (by kernel_rfl) ⟨?g0,?g1,?g2,?g3,?g4,?g5,?g6,?g7,?g8,?g9,trivial⟩ ?post
 case g0=>
  intro v w1 hx;intro bb hbb;subst hbb;intro K hK;go_simp;refine Q0d (table_any w1) ?_;rintro e w2 ⟨b,rfl,hm,hx2⟩;exact ⟨_,rfl,hK _ _ hx2 ⟨b,rfl,hm⟩⟩
 case g1=>
  intro v w1 hx;intro bb hbb;subst hbb;refine ⟨_,fun w=>?_,rfl⟩;go_simp
 case g2=>
  intro v w1 hx;(repeat intro (zq:v _ = _));intro bb hbb;subst hbb;have n0:w1.cell? ⟨g,0,none⟩ = some (.string kd):=(K0.out.ext (hdr.trans hx)).cell 0;intro K hK;go_simp;exact hK _ _ (Ext.refl _) rfl
 case g3=>
  intro v w1 hx (q0:(fun v w'=>IsTable w' (v 0)) v w1) (q1:v 1 = _) (q2:v 2 = _);intro bb hbb;obtain ⟨b,hb,hm⟩:=q0;have o1:bb.eval (.tmp 10) = .map (some b):=by rw [hbb]; dsimp only; (try simp (discharger:=decide) only [eval_put_ne]); rw [Q0a (by simp only [size_put]; exact (by decide:10 < 56))]; exact hb
  have o2:bb.eval (.tmp 12) = .string kd:=by rw [hbb]; dsimp only; (try simp (discharger:=decide) only [eval_put_ne]); rw [Q0a (by simp only [size_put]; exact (by decide:12 < 56))]; exact q2
  have hlk:=Q4c (P:=Tryz.prog) hm X4n X7f (Z1x _) kd true;rw [if_pos rfl,HFD.out] at hlk;clear hbb;intro K hK;unfold execOp;simp only [o1,o2];go_simp;exact hK _ _ (Ext.refl _) rfl
 case g4=>
  intro v w1 hx _ (q1:v 1 = _) (q2:v 2 = _) (q3:v 3 = _);intro bb hbb;subst hbb;refine ⟨_,fun w=>?_,rfl⟩;go_simp
 case g5=>
  intro v w1 hx _ (q1:v 1 = _) (q2:v 2 = _) (q3:v 3 = _) (q4:v 4 = _);intro bb hbb;have o1:bb.eval (.tmp 9) = .tuple #[kdV A B F,.bool true]:=by rw [hbb]; dsimp only; (try simp (discharger:=decide) only [eval_put_ne]); rw [Q0a (by simp only [size_put]; exact (by decide:9 < 56))]; exact q4
  exact ⟨_,fun w=>Q3t _ 0 rfl o1 rfl w,rfl⟩
 case g6=>
  intro v w1 hx _ (q1:v 1 = _) (q2:v 2 = _) (q3:v 3 = _) (q4:v 4 = _);intro bb hbb;subst hbb;refine ⟨_,fun w=>?_,rfl⟩;go_simp
 case g7=>
  intro v w1 hx;intro bb hbb;subst hbb;intro K2 hK2;go_simp;exact hK2 _ _ (Ext.box _ _) ⟨_,rfl,(hdr.trans hx).size,Blk.made _ _ _⟩
 case g8=>
  intro v w1 hx _ (q1:v 1 = _) (q2:v 2 = _) (q3:v 3 = _) (q4:v 4 = _) (q5:v 5 = _) (q7:(fun v w'=>∃ gk,v 7 = .pointer (some ⟨gk,0,none⟩) /\ W.heap.size <= gk /\ Blk w' gk 273 #[.bool false,.bool false,.nilFunc]) v w1);intro wl hT;obtain rfl:wl = w1:=hT;intro bb hbb;intro K2 hK2;obtain ⟨gk,hg,hgl,hgb⟩:=q7;have o1:bb.eval (.tmp 5) = .pointer (some ⟨gk,0,none⟩):=by rw [hbb]; dsimp only; (try simp (discharger:=decide) only [eval_put_ne]); rw [Q0a (by simp only [size_put]; exact (by decide:5 < 56))]; exact hg
  have o2:bb.eval (.tmp 14) = .agg #[.bool A,.bool B,.func (.func F) #[] #[]]:=by rw [hbb]; dsimp only; (try simp (discharger:=decide) only [eval_put_ne]); rw [Q0a (by simp only [size_put]; exact (by decide:14 < 56))]; exact q5
  exact Q3x (.tmp 5) (.tmp 14) _ rfl Tryz.Z4q o1 o2 hgb rfl rfl (by simp [Value.oneCell']) (fun vv w9 hb hl ho=>hK2 _ _ ⟨gk,hg,hgl,hb,hl _ (Nat.le_refl _)⟩)
 case g9=>
  intro v w1 hx _ (q1:v 1 = _) (q2:v 2 = _) (q3:v 3 = _) (q4:v 4 = _) (q5:v 5 = _) (q6:v 6 = _) _;intro wl hT;replace hT:(fun v w1 w'=>∃ gk,v 7 = .pointer (some ⟨gk,0,none⟩) /\ W.heap.size <= gk /\ Blk w' gk 273 #[.bool A,.bool B,.func (.func F) #[] #[]] /\ Below gk w1 w') v w1 wl:=hT;intro bb hbb;intro K2 hK2;have o1:bb.eval (.tmp 15) = .bool true:=by rw [hbb]; dsimp only; (try simp (discharger:=decide) only [eval_put_ne,Q0m]); rw [Q0a (by simp only [size_put]; exact (by decide:15 < 56))]; exact q6
  exact Q6j (.tmp 15) rfl o1 (hK2 _ _ ⟨hT,rfl⟩)
 case post =>
  intro v w1 hx (q0:(fun v w'=>IsTable w' (v 0)) v w1) (q1:v 1 = _) (q2:v 2 = _) (q3:v 3 = _) (q4:v 4 = _) (q5:v 5 = _) (q6:v 6 = _) (q7:(fun v w'=>∃ gk,v 7 = .pointer (some ⟨gk,0,none⟩) /\ W.heap.size <= gk /\ Blk w' gk 273 #[.bool false,.bool false,.nilFunc]) v w1);intro w2 hE;replace hE:(fun v w1 w'=>(∃ gk,v 7 = .pointer (some ⟨gk,0,none⟩) /\ W.heap.size <= gk /\ Blk w' gk 273 #[.bool A,.bool B,.func (.func F) #[] #[]] /\ Below gk w1 w') /\ v 9 = .bool true) v w1 w2:=hE;simp only [Flow.acts,Act.put];go_simp;obtain ⟨⟨gk,h7,hgl,hbk,hlo⟩,h9⟩:=hE;rw [h7];have HX2:Hid (Ext W w2):=Lib.hid (Below.trans (hdr.trans hx) (hlo.mono hgl));have HK0:=Lib.hid (K0.out.ext HX2.out);have HK1:=Lib.hid (K1.out.ext HX2.out);have HKK:=Lib.hid hbk;have c0:=(hbk).cell 0;have c1:=(hbk).cell 1;have c2:=(hbk).cell 2;simp only [Go.Tw.gA,Go.Tw.gB,Go.Tw.gC] at c0 c1 c2;have d1:=HK0.out.cell 1;have d2:=HK0.out.cell 2;simp only [Go.Tw.gA,Go.Tw.gB,Go.Tw.gC] at d1 d2;have hcn:=HK1.out.cell 0;simp only [Go.Tw.gA,Go.Tw.gB] at hcn;have HCN:=Lib.hid hcn;clear hx hdr hbk hlo h9 h7 q0 q1 q2 q3 q4 q5 q6 q7 hcn;go_wp2_with fail;refine (fits_any _ lf A (g + 1) n HCN.out HA.out).mono ?_;rintro e w3 ⟨rfl,hw⟩;subst hw;go_wp2_with fail;refine (fits_any _ lt B (g + 1) n HCN.out HB.out).mono ?_;rintro e w3 ⟨rfl,hw⟩;subst hw;go_upto_region 8 with fail;obtain ⟨q,hAB⟩:∃ q,(A && !B) = q:=⟨_,rfl⟩;cases q
  . have HLM:Hid (0 <= la /\ la <= 1024):=Lib.hid (by have:=HL.out; simp only [hAB] at this; exact this)
    have HEQ:∀ w,(binOp .eql 270 (.agg #[.bool A,.bool B]) (.agg #[.bool true,.bool false])).run Tryz.prog w = .ok (.bool false) w:=fun w=>by have h:=Tryz.Z7g A B w; rw [hAB] at h; exact h
    replace HEQ:=Lib.hid HEQ;go_upto_region 10 with (first | (refine Q5r rfl _ 270 rfl Tryz.Y2a Tryz.X4o rfl (Y7m HKK.out) rfl ?_) | (refine Q6s rfl rfl ?_) | (refine Q6y rfl _ _ 270 _ rfl rfl rfl HEQ.out Tryz.Y1f ?_))
    have hdr:=(Ext.refl w2).drew;have hne:(lf == lt) = false:=by simp [HR.out]
    clear c0 c1 c2 d1 d2;refine Flow.Q1p [.p,.w,.p,.w,.p,.w,.p,.w,.p,.w,.p,.w,.w,.w,.w,.p] [0,1,2,3,4,5,6,7,8,9,10,11,12,13,14,15] [[],[0],[],[2],[1,3],[4],[],[6],[],[5,7,8],[],[10],[9,11],[5,9,12],[12,13],[0,1,2,3,4,5,6,7,8,9,10,11,12,13,14]]
     [.c 0 (.pointer (some ⟨g,1,none⟩)),.c 1 (.int .i64 lf),.c 2 (.pointer (some ⟨g,2,none⟩)),.c 3 (.int .i64 lt),.c 4 (.bool (lf == lt)),.c 5 (.int .i64 0),.c 6 (.pointer (some ⟨g,3,none⟩)),.c 7 (.int .i64 la),.c 8 (.int .i64 1024),.c 9 (.int .i64 0),.c 10 (.pointer (some ⟨g,4,none⟩)),.c 11 (.int .i64 lr),.c 12 (.int .i64 0),⟨fun v wz=>Q0b wz (v 13) [0,0,0],fun _ _ _ hx h=>h.ext hx⟩,.c 14 (.int .i64 0),.c 15 (.int .i64 0)]
     (by kernel_rfl) rfl (by kernel_rfl) ⟨?g0,?g1,?g2,?g3,?g4,?g5,?g6,?g7,?g8,?g9,?g10,?g11,?g12,?g13,?g14,?g15,trivial⟩ ?post
    case g0 | g2 | g6 | g8 | g10=>
     intro v w1 hx;intro bb hbb;subst hbb;refine ⟨_,fun w=>?_,rfl⟩;go_simp
    case g1 | g3 | g7 | g11=>
     intro v w1 hx;(repeat intro (zq:v _ = _));intro bb hbb;subst hbb;have n0:w1.cell? ⟨g,1,none⟩ = some (.int .i64 lf):=(HK0.out.ext (hdr.trans hx)).cell 1;have n1:w1.cell? ⟨g,2,none⟩ = some (.int .i64 lt):=(HK0.out.ext (hdr.trans hx)).cell 2;have n2:w1.cell? ⟨g,3,none⟩ = some (.int .i64 la):=(HK0.out.ext (hdr.trans hx)).cell 3;have n3:w1.cell? ⟨g,4,none⟩ = some (.int .i64 lr):=(HK0.out.ext (hdr.trans hx)).cell 4;intro K hK;go_simp;exact hK _ _ (Ext.refl _) rfl
    case g4=>
     intro v w1 hx;(repeat intro (zq:v _ = _));intro bb hbb;subst hbb;refine ⟨_,fun w=>?_,rfl⟩;go_simp
    case g5=>
     intro v w1 hx;(repeat intro (zq:v _ = _));intro bb hbb;subst hbb;intro K hK;go_simp;refine Q0d (Q9o w1 false 17 rfl) ?_;rintro e w2 ⟨rfl,rfl⟩;exact ⟨_,rfl,hK _ _ (Ext.refl _) rfl⟩
    case g9=>
     intro v w1 hx;(repeat intro (zq:v _ = _));intro bb hbb;subst hbb;intro K hK;go_simp;refine Q0d (Q7f w1 la 0 1024 HLM.out) ?_;rintro e w2 ⟨rfl,rfl⟩;exact ⟨_,rfl,hK _ _ (Ext.refl _) rfl⟩
    case g12=>
     intro v w1 hx;(repeat intro (zq:v _ = _));intro bb hbb;subst hbb;intro K hK;go_simp;refine Q0d (Q7f w1 lr 1 1000 HQ.out) ?_;rintro e w2 ⟨rfl,rfl⟩;exact ⟨_,rfl,hK _ _ (Ext.refl _) rfl⟩
    case g13=>
     intro v w1 hx;(repeat intro (zq:v _ = _));intro bb hbb;subst hbb;intro K hK;go_simp;exact hK _ _ (Ext.box _ _) (Q2b (l:=[0,0,0]) (by simp))
    case g14=>
     intro v w1 hx (q12:v 12 = _) (q13:Q0b w1 (v 13) [0,0,0]);intro bb hbb;subst hbb;intro K hK;go_simp;refine Q0d (Q5g w1 _ [0,0,0] q13 (by simp)) ?_
     rintro e w2 ⟨rfl,rfl⟩;exact ⟨_,rfl,hK _ _ (Ext.refl _) rfl⟩
    case g15=>
     intro v w1 hx (q0:v 0 = _) (q1:v 1 = _) (q2:v 2 = _) (q3:v 3 = _) (q4:v 4 = _) (q5:v 5 = _) (q6:v 6 = _) (q7:v 7 = _) (q8:v 8 = _) (q9:v 9 = _) (q10:v 10 = _) (q11:v 11 = _) (q12:v 12 = _) _ (q14:v 14 = _);intro bb hbb;subst hbb;refine ⟨_,fun w=>?_,rfl⟩;go_simp
    case post =>
     intro v w1 hx;(iterate 13 intro (zq:v _ = _));intro (q13:Q0b w1 (v 13) [0,0,0]);(iterate 2 intro (zq:v _ = _));simp only [Flow.All,Flow.acts,Act.put];go_simp;have HX9:=Lib.hid (HX2.out.trans (hdr.trans hx));clear hx hdr q13;go_wp2;go_ret;exact ⟨rfl,HXW.out.trans HX9.out⟩
  . have HLM:Hid (0 <= la /\ la <= 0):=Lib.hid (by have:=HL.out; simp only [hAB] at this; exact this)
    have HEQ:∀ w,(binOp .eql 270 (.agg #[.bool A,.bool B]) (.agg #[.bool true,.bool false])).run Tryz.prog w = .ok (.bool true) w:=fun w=>by have h:=Tryz.Z7g A B w; rw [hAB] at h; exact h
    replace HEQ:=Lib.hid HEQ;go_upto_region 10 with (first | (refine Q5r rfl _ 270 rfl Tryz.Y2a Tryz.X4o rfl (Y7m HKK.out) rfl ?_) | (refine Q6s rfl rfl ?_) | (refine Q6y rfl _ _ 270 _ rfl rfl rfl HEQ.out Tryz.Y1f ?_))
    have hdr:=(Ext.refl w2).drew;have hne:(lf == lt) = false:=by simp [HR.out]
    clear c0 c1 c2 d1 d2;refine Flow.Q1p [.p,.w,.p,.w,.p,.w,.p,.w,.p,.w,.p,.w,.w,.w,.w,.p] [0,1,2,3,4,5,6,7,8,9,10,11,12,13,14,15] [[],[0],[],[2],[1,3],[4],[],[6],[],[5,7,8],[],[10],[9,11],[5,9,12],[12,13],[0,1,2,3,4,5,6,7,8,9,10,11,12,13,14]]
     [.c 0 (.pointer (some ⟨g,1,none⟩)),.c 1 (.int .i64 lf),.c 2 (.pointer (some ⟨g,2,none⟩)),.c 3 (.int .i64 lt),.c 4 (.bool (lf == lt)),.c 5 (.int .i64 0),.c 6 (.pointer (some ⟨g,3,none⟩)),.c 7 (.int .i64 la),.c 8 (.int .i64 0),.c 9 (.int .i64 0),.c 10 (.pointer (some ⟨g,4,none⟩)),.c 11 (.int .i64 lr),.c 12 (.int .i64 0),⟨fun v wz=>Q0b wz (v 13) [0,0,0],fun _ _ _ hx h=>h.ext hx⟩,.c 14 (.int .i64 0),.c 15 (.int .i64 0)]
     (by kernel_rfl) rfl (by kernel_rfl) ⟨?g0,?g1,?g2,?g3,?g4,?g5,?g6,?g7,?g8,?g9,?g10,?g11,?g12,?g13,?g14,?g15,trivial⟩ ?post
    case g0 | g2 | g6 | g8 | g10=>
     intro v w1 hx;intro bb hbb;subst hbb;refine ⟨_,fun w=>?_,rfl⟩;go_simp
    case g1 | g3 | g7 | g11=>
     intro v w1 hx;(repeat intro (zq:v _ = _));intro bb hbb;subst hbb;have n0:w1.cell? ⟨g,1,none⟩ = some (.int .i64 lf):=(HK0.out.ext (hdr.trans hx)).cell 1;have n1:w1.cell? ⟨g,2,none⟩ = some (.int .i64 lt):=(HK0.out.ext (hdr.trans hx)).cell 2;have n2:w1.cell? ⟨g,3,none⟩ = some (.int .i64 la):=(HK0.out.ext (hdr.trans hx)).cell 3;have n3:w1.cell? ⟨g,4,none⟩ = some (.int .i64 lr):=(HK0.out.ext (hdr.trans hx)).cell 4;intro K hK;go_simp;exact hK _ _ (Ext.refl _) rfl
    case g4=>
     intro v w1 hx;(repeat intro (zq:v _ = _));intro bb hbb;subst hbb;refine ⟨_,fun w=>?_,rfl⟩;go_simp
    case g5=>
     intro v w1 hx;(repeat intro (zq:v _ = _));intro bb hbb;subst hbb;intro K hK;go_simp;refine Q0d (Q9o w1 false 17 rfl) ?_;rintro e w2 ⟨rfl,rfl⟩;exact ⟨_,rfl,hK _ _ (Ext.refl _) rfl⟩
    case g9=>
     intro v w1 hx;(repeat intro (zq:v _ = _));intro bb hbb;subst hbb;intro K hK;go_simp;refine Q0d (Q7f w1 la 0 0 HLM.out) ?_;rintro e w2 ⟨rfl,rfl⟩;exact ⟨_,rfl,hK _ _ (Ext.refl _) rfl⟩
    case g12=>
     intro v w1 hx;(repeat intro (zq:v _ = _));intro bb hbb;subst hbb;intro K hK;go_simp;refine Q0d (Q7f w1 lr 1 1000 HQ.out) ?_;rintro e w2 ⟨rfl,rfl⟩;exact ⟨_,rfl,hK _ _ (Ext.refl _) rfl⟩
    case g13=>
     intro v w1 hx;(repeat intro (zq:v _ = _));intro bb hbb;subst hbb;intro K hK;go_simp;exact hK _ _ (Ext.box _ _) (Q2b (l:=[0,0,0]) (by simp))
    case g14=>
     intro v w1 hx (q12:v 12 = _) (q13:Q0b w1 (v 13) [0,0,0]);intro bb hbb;subst hbb;intro K hK;go_simp;refine Q0d (Q5g w1 _ [0,0,0] q13 (by simp)) ?_
     rintro e w2 ⟨rfl,rfl⟩;exact ⟨_,rfl,hK _ _ (Ext.refl _) rfl⟩
    case g15=>
     intro v w1 hx (q0:v 0 = _) (q1:v 1 = _) (q2:v 2 = _) (q3:v 3 = _) (q4:v 4 = _) (q5:v 5 = _) (q6:v 6 = _) (q7:v 7 = _) (q8:v 8 = _) (q9:v 9 = _) (q10:v 10 = _) (q11:v 11 = _) (q12:v 12 = _) _ (q14:v 14 = _);intro bb hbb;subst hbb;refine ⟨_,fun w=>?_,rfl⟩;go_simp
    case post =>
     intro v w1 hx;(iterate 13 intro (zq:v _ = _));intro (q13:Q0b w1 (v 13) [0,0,0]);(iterate 2 intro (zq:v _ = _));simp only [Flow.All,Flow.acts,Act.put];go_simp;have HX9:=Lib.hid (HX2.out.trans (hdr.trans hx));clear hx hdr q13;go_wp2;go_ret;exact ⟨rfl,HXW.out.trans HX9.out⟩
end Go.Proofs
namespace Go.Tw
open Go.RowKit Go.Flow Go.Ba
structure Q1b.Fine (b:Q1b):Prop where
 ok:b.Ok
 links:∀ k,k < b.links.length -> Y0s (lk b.links k) b.nodes.length
 names:∀ k,k < b.nodes.length -> nameB (X2i b.nodes k) = true
 diff:∀ j k,j < k -> k < b.nodes.length -> X2i b.nodes j ≠ X2i b.nodes k
end Go.Tw
namespace Go.Proofs
open Go.RowKit Go.Tw Go.Flow Go.Ba
attribute [local go_sem] Oper.semAt_some
theorem Y5t (w:World) (l:Q4r) (g n:Nat) (A:Option Addr) (capa:Nat) (u:Value) (hb:Blk w g 40 #[.slice A n capa,u]) (h:Y0s l n) :
    Calls Tryz.prog 141 #[lkV l.kind l.src l.dst l.lev l.rate,.pointer (some ⟨g,0,none⟩)] w fun e w'=>e = .returned (.int .i64 0) /\ Ext w w':=by
 obtain ⟨kd,lf,lt,la,lr⟩:=l;have H:=Lib.hid h;have HB:=Lib.hid hb;clear h hb;dsimp only;go_enter Tryz.func141,Tryz.ntmps141;go_upto_region 1 with fail;obtain ⟨W,hWW,k0,HXW,eW⟩:=Q2q w 106 #[.string kd,.int .i64 lf,.int .i64 lt,.int .i64 la,.int .i64 lr];rw [hWW];clear hWW;have n0:=(HB.out.ext HXW.out).cell 0;simp only [Go.Tw.gA,Go.Tw.gB] at n0;have K0:=Lib.hid k0;clear k0;go_wp2_with (first | (refine Q0j rfl _ _ rfl Tryz.Z2p Tryz.Y8w rfl K0.out rfl ?_) | fail)
 refine (X8j _ ⟨kd,lf,lt,la,lr⟩ n H.out).mono ?_;rintro e w2 ⟨rfl,hx2⟩;have HX2:=Lib.hid (HXW.out.trans hx2);clear hx2;go_wp2;go_ret;exact ⟨rfl,HX2.out⟩
theorem Y0g (w:World) (x:Q1b) (v u:Value) (g capa:Nat) (A:Option Addr) (hv:Q7z w v x.links) (hb:Blk w g 40 #[.slice A x.nodes.length capa,u]) (hf:∀ k,k < x.links.length -> Y0s (lk x.links k) x.nodes.length) (hm:x.links.length <= 16) :
    Calls Tryz.prog 140 #[v,.func (.func 141) #[] #[.pointer (some ⟨g,0,none⟩)]] w fun e w'=>∃ r,e = .returned r /\ Q0b w' r (List.replicate x.links.length 0) /\ Ext w w':=by
 obtain ⟨i0,hi,hz0,hz1,hz2⟩:=info_parts Tryz.Q8u;obtain ⟨A1,cap,rfl,-,-,-⟩:=hv.opened;have HV:=Lib.hid hv;have HF:=Lib.hid hf;have HB:=Lib.hid hb;have HL:=Lib.hid hm;obtain ⟨m,hmm⟩:∃ z,x.links.length = z:=⟨_,rfl⟩;have HM:=Lib.hid hmm;rw [hmm];clear hv hf hb hm hmm;go_enter Tryz.func140,Tryz.ntmps140;go_wp2
 go_loopw [5,10] (fun o i wr=>∃ k:Nat,k <= m /\ i = .int .i64 k /\ Q0g wr w.heap.size 34 (.int .i64) o (List.replicate k 0) /\ Ext w wr) (fun _ i _=>m - (intOf i).toNat)
 case atStart=>exact ⟨0,Nat.zero_le _,rfl,Q0g.nil _ _ _ _,Ext.refl _⟩
 case round =>
  obtain ⟨k,hk,rfl,hown,hx⟩:=hrel;have HOWN:=Lib.hid hown;have HXR:=Lib.hid hx
  by_cases hlt:k < m
  . have hkI:(k:Int) < (m:Int):=by omega
    have HK:=Lib.hid hlt;have HWK:Hid (wrap64 ((k:Int) + 1) = (k:Int) + 1):=Lib.hid (by have:=HL.out; have:=HM.out; unfold wrap64; omega)
    obtain ⟨L9,c9,h9,-,-,hcx⟩:=(HV.out.ext hx).opened;obtain ⟨bx,ox,hbx,-,d0,d1,d2,d3,d4,-⟩:=hcx k (by rw [HM.out]; exact hlt)
    rw [HM.out] at h9;injection h9 with k1 k2 k3;subst k1 k3;subst hbx;have hlo:=HF.out k (by rw [HM.out]; exact hlt)
    obtain ⟨l,hl⟩:∃ z,lk x.links k = z:=⟨_,rfl⟩;rw [hl] at d0 d1 d2 d3 d4 hlo;have HLO:=Lib.hid hlo;obtain ⟨kd,lf,lt,la,lr⟩:=l;dsimp only at d0 d1 d2 d3 d4;clear hcx hl hown hx k2 hlo hk hlt;go_upto_region 5 with fail;clear d0 d1 d2 d3 d4;obtain ⟨gl,hgl⟩:∃ z,wr.heap.size = z:=⟨_,rfl⟩;have hxb:=Ext.box wr (.cells (lkC kd lf lt la lr) 106);have hkb:=Blk.made wr 106 (lkC kd lf lt la lr);obtain ⟨W7,hW7⟩:∃ z,wr.alloc (.cells (lkC kd lf lt la lr) 106) = z:=⟨_,rfl⟩;rw [hW7,hgl] at hkb;rw [hW7] at hxb ⊢;rw [hgl];have HKB:=Lib.hid hkb;have HXB:=Lib.hid (HXR.out.trans hxb);have HXB0:=Lib.hid hxb;clear hW7 hxb hkb hgl;go_wp2_with (first | (refine Q0j rfl _ _ rfl Tryz.Z2p Tryz.Y8w rfl HKB.out rfl ?_) | fail)
    refine (Y5t _ ⟨kd,lf,lt,la,lr⟩ g _ A capa u (HB.out.ext HXB.out) HLO.out).mono ?_;rintro e w8 ⟨rfl,hx8⟩;have hx:=HXB.out.trans hx8;have hown:=HOWN.out.below (HXB0.out.trans hx8);have hll:(List.replicate k (0:Int)).length <= 4096:=by rw [List.length_replicate]; have:=HK.out; have:=HL.out; have:=HM.out; omega
    clear HKB HXB HXB0 hx8;go_wp2_with (at_builtin; refine wpList_append_own _ rfl _ _ 178 rfl (w.heap.size) 34 i0 (.int .i64 0) 1 8 Tryz.underlying178 hi hz0 hz1 hz2 rfl (by decide) _ _ _ rfl (World.ownsRow.alloc hown _) ⟨w8.heap.size,0,none⟩ 1 1 [.int .i64 0] rfl rfl ?_ ?_ ?_ ?_ ?_ ?_; exact Q4h _ _ _; (focus (simp [Value.oneCell'])); (focus (unfold maxLen; omega)); (focus omega); (focus (have:=hx.size; simp at this ⊢; omega)); intro v' w1 hown' hgrow _)
    have hx':=Q2r hx hown (Nat.le_refl _) hgrow;go_wp2;go_roundw
    case rel=>exact ⟨k + 1,by have:=HK.out; omega,by (try rw [HWK.out]); go_num,by have h:=Q0g.snoc hown'; rwa [<- List.replicate_succ'] at h,hx'⟩
    case measure=>have:=HK.out; (try rw [HWK.out]); simp [intOf]; omega
  . obtain rfl:k = m:=by omega
    have hkI:¬ (k:Int) < (k:Int):=by omega
    have HLE:Hid ((List.replicate k (0:Int)).length <= 17592186043904):=Lib.hid (by rw [List.length_replicate]; have:=HL.out; have:=HM.out; omega)
    clear hown hx;go_wp2;go_ret;exact ⟨_,rfl,HOWN.out.ints HLE.out,HXR.out⟩
end Go.Proofs
namespace Go.Proofs
open Go.RowKit Go.Tw Go.Flow Go.Ba
attribute [local go_sem] Oper.semAt_some
theorem Y0c (s x:ByteArray) (v:Value):∀ l:List (ByteArray × Value),Q5k x (X5t s v l) = if x = s then some v else Q5k x l
 | []=>by
   unfold X5t Q5k
   by_cases h:x = s
   . rw [if_pos (by rw [h]; exact beq_self_eq_true s),if_pos h]
   . rw [if_neg (by simpa using h),if_neg h]; rfl
 | p :: l=>by
   unfold X5t
   by_cases hs:(s == p.1) = true
   . have hsp:s = p.1:=by simpa using hs
     rw [if_pos hs];unfold Q5k
     by_cases h:x = s
     . rw [if_pos (by rw [h]; exact beq_self_eq_true s),if_pos h]
     . rw [if_neg (by simpa using h),if_neg h,if_neg (by rw [<- hsp]; simpa using h)]
   . rw [if_neg hs]
     unfold Q5k;rw [Y0c s x v l]
     by_cases h:x = s
     . simp only [if_pos h]; rw [if_neg (by rw [h]; exact hs)]
     . simp only [if_neg h]
def Q8b (l:List (ByteArray × Value)) (f:Nat -> ByteArray) (k:Nat):Prop:=∀ s,(∀ j,j < k -> f j ≠ s) -> (Q5k s l).getD (.bool false) = .bool false
theorem Q8b.nil (f:Nat -> ByteArray):Q8b [] f 0:=fun _ _=>rfl
theorem Q8b.put {l:List (ByteArray × Value)} {f:Nat -> ByteArray} {k:Nat} (h:Q8b l f k):Q8b (X5t (f k) (.bool true) l) f (k + 1):=fun s hs=>by
 rw [Y0c,if_neg (fun e=>hs k (Nat.lt_succ_self k) e.symm)];exact h s fun j hj=>hs j (by omega)
theorem Y8a:Tryz.prog.underlying 193 = some (.map 9 4):=by kernel_rfl
theorem Z5i (w:World):(zeroValue 4).run Tryz.prog w = .ok (.bool false) w:=by kernel_rfl
theorem X5g (w:World) (vb:Value) (x:Q1b) (hv:Q1s w vb x) (hb:x.Fine) :
    Calls Tryz.prog 74 #[vb] w fun e w'=>e = .returned (.int .i64 0) /\ Ext w w':=by
 have hmm:=@run_makeMap Tryz.prog;obtain ⟨va,vl,rfl,h2⟩:=hv;obtain ⟨A,capa,rfl,-,-,-⟩:=h2.nodes.opened;obtain ⟨L,capl,rfl,-,-,-⟩:=h2.links.opened;have H2:=Lib.hid h2;have HF:=Lib.hid hb;obtain ⟨n,hn⟩:∃ z,x.nodes.length = z:=⟨_,rfl⟩;obtain ⟨m,hm⟩:∃ z,x.links.length = z:=⟨_,rfl⟩;have HN:=Lib.hid hn;have HM:=Lib.hid hm;have HNB:Hid (1 <= n /\ n <= 8):=Lib.hid (by rw [<- hn]; exact hb.ok.some)
 have HMB:Hid (m <= 16):=Lib.hid (by rw [<- hm]; exact hb.ok.many)
 have he0:((n:Int) == 0) = false:=by have:=HNB.out; simp; omega
 have hgt:decide ((8:Int) < (n:Int)) = false:=by have:=HNB.out; simp; omega
 rw [hn,hm];clear h2 hb hn hm;go_enter Tryz.func74,Tryz.ntmps74;go_upto_region 1 with fail;obtain ⟨W,hWW,k0,HXW,eW⟩:=Q2q w 40 #[.slice A n capa,.slice L m capl];rw [hWW];clear hWW;obtain ⟨g,hg⟩:∃ z,w.heap.size = z:=⟨_,rfl⟩;rw [hg] at k0 eW ⊢;have K0:=Lib.hid k0;have HGW:Hid (g < W.heap.size):=Lib.hid k0.lt;have hdr:=(Ext.refl W).drew;clear k0 eW hg;refine Flow.Q1p [.p,.w,.p,.p,.w,.p,.w,.p,.p,.w,.w,.w,.p] [0,1,2,3,4,5,6,7,8,9,10,11,12] [[],[0],[1],[2],[3],[],[5],[6],[7],[4,8],[4,9],[9,10],[0,1,2,3,4,5,6,7,8,9,10,11]]
  [.c 0 (.pointer (some ⟨g,0,none⟩)),.c 1 (.slice A n capa),.c 2 (.int .i64 ((n:Nat):Int)),.c 3 (.bool false),.c 4 (.int .i64 0),.c 5 (.pointer (some ⟨g,0,none⟩)),.c 6 (.slice A n capa),.c 7 (.int .i64 ((n:Nat):Int)),.c 8 (.bool false),.c 9 (.int .i64 0),⟨fun v wz=>Q0b wz (v 10) [0,0],fun _ _ _ hx h=>h.ext hx⟩,.c 11 (.int .i64 0),.c 12 (.int .i64 0)]
  (by kernel_rfl) rfl (by kernel_rfl) ⟨?g0,?g1,?g2,?g3,?g4,?g5,?g6,?g7,?g8,?g9,?g10,?g11,?g12,trivial⟩ ?post
 case g0 | g5=>
  intro v w1 hx;intro bb hbb;subst hbb;refine ⟨_,fun w=>?_,rfl⟩;go_simp
 case g1 | g6=>
  intro v w1 hx;(repeat intro (zq:v _ = _));intro bb hbb;subst hbb;have n0:w1.cell? ⟨g,0,none⟩ = some (.slice A n capa):=(K0.out.ext (hdr.trans hx)).cell 0;intro K hK;go_simp;exact hK _ _ (Ext.refl _) rfl
 case g2 | g3 | g7 | g8=>
  intro v w1 hx;(repeat intro (zq:v _ = _));intro bb hbb;subst hbb;refine ⟨_,fun w=>?_,rfl⟩;go_simp
 case g4=>
  intro v w1 hx;(repeat intro (zq:v _ = _));intro bb hbb;subst hbb;intro K hK;go_simp;refine Q0d (Q9o w1 false 12 rfl) ?_;rintro e w2 ⟨rfl,rfl⟩;exact ⟨_,rfl,hK _ _ (Ext.refl _) rfl⟩
 case g9=>
  intro v w1 hx;(repeat intro (zq:v _ = _));intro bb hbb;subst hbb;intro K hK;go_simp;refine Q0d (Q9o w1 false 5 rfl) ?_;rintro e w2 ⟨rfl,rfl⟩;exact ⟨_,rfl,hK _ _ (Ext.refl _) rfl⟩
 case g10=>
  intro v w1 hx;(repeat intro (zq:v _ = _));intro bb hbb;subst hbb;intro K hK;go_simp;exact hK _ _ (Ext.box _ _) (Q2b (l:=[0,0]) (by simp))
 case g11=>
  intro v w1 hx (q9:v 9 = _) (q10:Q0b w1 (v 10) [0,0]);intro bb hbb;subst hbb;intro K hK;go_simp;refine Q0d (Q5g w1 _ [0,0] q10 (by simp)) ?_
  rintro e w2 ⟨rfl,rfl⟩;exact ⟨_,rfl,hK _ _ (Ext.refl _) rfl⟩
 case g12=>
  intro v w1 hx (q0:v 0 = _) (q1:v 1 = _) (q2:v 2 = _) (q3:v 3 = _) (q4:v 4 = _) (q5:v 5 = _) (q6:v 6 = _) (q7:v 7 = _) (q8:v 8 = _) (q9:v 9 = _) _ (q11:v 11 = _);intro bb hbb;subst hbb;refine ⟨_,fun w=>?_,rfl⟩;go_simp
 case post =>
  intro v w1 hx (q0:v 0 = _) (q1:v 1 = _) (q2:v 2 = _) (q3:v 3 = _) (q4:v 4 = _) (q5:v 5 = _) (q6:v 6 = _) (q7:v 7 = _) (q8:v 8 = _) (q9:v 9 = _) (q10:Q0b w1 (v 10) [0,0]) (q11:v 11 = _) (q12:v 12 = _);simp only [Flow.All,Flow.acts,Act.put];go_simp;have HX1:=Lib.hid (HXW.out.trans (hdr.trans hx));have HK1:=Lib.hid (K0.out.ext (hdr.trans hx));have HG1:Hid (g < w1.heap.size):=Lib.hid (by have:=(hdr.trans hx).size; have:=HGW.out; omega)
  have c0:=HK1.out.cell 0;simp only [Go.Tw.gA,Go.Tw.gB,Go.Tw.gC] at c0;clear hx hdr q0 q1 q2 q3 q4 q5 q6 q7 q8 q9 q10 q11 q12 he0 hgt HGW;go_upto_region 5 with fail;clear hmm;have hmap:=Q1m.made w1;have hxm:Ext w1 (w1.alloc (.map #[] 0)):=Ext.box w1 (.map #[] 0);obtain ⟨b,hb⟩:∃ z,w1.heap.size = z:=⟨_,rfl⟩;obtain ⟨W2,hW2⟩:∃ z,w1.alloc (.map #[] 0) = z:=⟨_,rfl⟩;rw [hW2,hb] at hmap;rw [hW2] at hxm ⊢;rw [hb];have HMP:=Lib.hid hmap;have HXM:=Lib.hid hxm;have HB:=Lib.hid hb;replace c0:=hxm.cell c0;clear hmap hxm hW2 hb;go_wp2;clear c0
  go_loopw [27] (fun iv wr=>∃ k:Nat,k <= n /\ iv = .int .i64 k /\ (∃ l,Q1m wr b l /\ Q8b l (X2i x.nodes) k) /\ Below b W2 wr) (fun iv _=>n - (intOf iv).toNat)
  case atStart=>exact ⟨0,Nat.zero_le _,rfl,⟨_,HMP.out,Q8b.nil _⟩,Below.refl _ _⟩
  case round =>
   obtain ⟨k,hk,rfl,⟨kl,hmp,hkn⟩,hlo⟩:=hrel;have HMPR:=Lib.hid hmp;have HKN:=Lib.hid hkn;have HLO:=Lib.hid hlo;have HXR:Hid (Ext w wr):=Lib.hid (Below.trans (HX1.out.trans HXM.out) (hlo.mono (by have:=HB.out; have:=HX1.out.size; omega)))
   by_cases hlt:k < n
   . have hkI:(k:Int) < (n:Int):=by omega
     have HK:=Lib.hid hlt;have HWK:Hid (wrap64 ((k:Int) + 1) = (k:Int) + 1):=Lib.hid (by have:=HNB.out; unfold wrap64; omega)
     obtain ⟨L9,c9,h9,-,-,hcx⟩:=(H2.out.ext HXR.out).nodes.opened;obtain ⟨bx,ox,hbx,-,d0,d1,d2,hsh⟩:=hcx k (by rw [HN.out]; exact hlt)
     rw [HN.out] at h9;injection h9 with k1 k2 k3;subst k1 k3;subst hbx;have hnm0:=HF.out.names k (by rw [HN.out]; exact hlt)
     have hdf:∀ j,j < k -> X2i x.nodes j ≠ X2i x.nodes k:=fun j hj=>HF.out.diff j k hj (by rw [HN.out]; exact hlt)
     have har0:=HF.out.ok.areas k (by rw [HN.out]; exact hlt)
     have hli0:=HF.out.ok.limits k (by rw [HN.out]; exact hlt)
     have hput0:=hkn.put;have hnot:=hkn _ hdf;obtain ⟨nm,hnm⟩:∃ z,X2i x.nodes k = z:=⟨_,rfl⟩;obtain ⟨ar,har⟩:∃ z,Q4x x.nodes k = z:=⟨_,rfl⟩;obtain ⟨li,hli⟩:∃ z,Q9m x.nodes k = z:=⟨_,rfl⟩;rw [hnm] at d0 hsh hnm0 hput0 hnot;rw [har] at d1 har0;rw [hli] at d2 hli0;have HPUT:=Lib.hid hput0;have HAR:=Lib.hid har0;have HLI:=Lib.hid hli0;have HNMB:Hid (∀ w',Calls Tryz.prog 105 #[.string nm] w' fun e w''=>e = .returned (.bool true) /\ Ext w' w''):=Lib.hid (fun w'=>by have:=X6o w' nm hsh; rwa [hnm0] at this)
     have HLK:Hid (∀ w',Ext wr w' -> (Instr.lookup 193 (.map (some b)) (.string nm) false).run Tryz.prog w' = .ok (.bool false) w'):=Lib.hid (fun w' h=>by
      have h:=Q4c (P:=Tryz.prog) (hmp.ext h) Y8a X7f (Z5i _) nm false;rw [if_neg (by simp),hnot] at h
      exact h)
     clear hcx hnm har hli hmp hkn hlo k2 hsh hnm0 hdf har0 hli0 hput0 hnot hk hlt;go_upto_region 8 with fail;clear d0 d1 d2;obtain ⟨gl,hgl⟩:∃ z,wr.heap.size = z:=⟨_,rfl⟩;have hxb:=Ext.box wr (.cells #[.string nm,.int .i64 ar,.int .i64 li] 105);have hkb:=Blk.made wr 105 #[.string nm,.int .i64 ar,.int .i64 li];obtain ⟨W7,hW7⟩:∃ z,wr.alloc (.cells #[.string nm,.int .i64 ar,.int .i64 li] 105) = z:=⟨_,rfl⟩;rw [hW7,hgl] at hkb;rw [hW7] at hxb ⊢;rw [hgl];have KL:=Lib.hid hkb;have HXB:=Lib.hid hxb;have hdr:=(Ext.refl W7).drew;clear hW7 hxb hkb hgl;refine Flow.Q1p [.p,.w,.w,.p,.w,.p,.p,.w,.w,.w,.p,.w,.w,.p,.w,.w,.w,.w,.p] [0,1,2,3,4,5,6,7,8,9,10,11,12,13,14,15,16,17,18] [[],[0],[1],[2],[2,3],[],[],[6],[5,7],[4,8],[],[10],[9,11],[],[13],[12,14],[4,9,12,15],[15,16],[0,1,2,3,4,5,6,7,8,9,10,11,12,13,14,15,16,17]]
      [.c 0 (.pointer (some ⟨gl,0,none⟩)),.c 1 (.string nm),.c 2 (.bool true),.c 3 (.bool (!true)),.c 4 (.int .i64 0),.c 5 (.map (some b)),.c 6 (.pointer (some ⟨gl,0,none⟩)),.c 7 (.string nm),.c 8 (.bool false),.c 9 (.int .i64 0),.c 10 (.pointer (some ⟨gl,1,none⟩)),.c 11 (.int .i64 ar),.c 12 (.int .i64 0),.c 13 (.pointer (some ⟨gl,2,none⟩)),.c 14 (.int .i64 li),.c 15 (.int .i64 0),⟨fun v wz=>Q0b wz (v 16) [0,0,0,0],fun _ _ _ hx h=>h.ext hx⟩,.c 17 (.int .i64 0),.c 18 (.int .i64 0)]
      (by kernel_rfl) rfl (by kernel_rfl) ⟨?g0,?g1,?g2,?g3,?g4,?g5,?g6,?g7,?g8,?g9,?g10,?g11,?g12,?g13,?g14,?g15,?g16,?g17,?g18,trivial⟩ ?post
     case g0 | g5 | g6 | g10 | g13=>
      intro v w1 hx;intro bb hbb;subst hbb;refine ⟨_,fun w=>?_,rfl⟩;go_simp
     case g1 | g7 | g11 | g14=>
      intro v w1 hx;(repeat intro (zq:v _ = _));intro bb hbb;subst hbb;have n0:w1.cell? ⟨gl,0,none⟩ = some (.string nm):=(KL.out.ext (hdr.trans hx)).cell 0;have n1:w1.cell? ⟨gl,1,none⟩ = some (.int .i64 ar):=(KL.out.ext (hdr.trans hx)).cell 1;have n2:w1.cell? ⟨gl,2,none⟩ = some (.int .i64 li):=(KL.out.ext (hdr.trans hx)).cell 2;intro K hK;go_simp;exact hK _ _ (Ext.refl _) rfl
     case g2=>
      intro v w1 hx;(repeat intro (zq:v _ = _));intro bb hbb;subst hbb;intro K hK;go_simp;refine Q0d (HNMB.out w1) ?_;rintro e w2 ⟨rfl,hx2⟩;exact ⟨_,rfl,hK _ _ hx2 rfl⟩
     case g3=>
      intro v w1 hx;(repeat intro (zq:v _ = _));intro bb hbb;subst hbb;refine ⟨_,fun w=>?_,rfl⟩;go_simp
     case g4=>
      intro v w1 hx;(repeat intro (zq:v _ = _));intro bb hbb;subst hbb;intro K hK;go_simp;refine Q0d (Q9o w1 false 8 rfl) ?_;rintro e w2 ⟨rfl,rfl⟩;exact ⟨_,rfl,hK _ _ (Ext.refl _) rfl⟩
     case g8=>
      intro v w1 hx;(repeat intro (zq:v _ = _));intro bb hbb;subst hbb;have hlk:=HLK.out _ (HXB.out.trans (hdr.trans hx));intro K hK;go_simp;exact hK _ _ (Ext.refl _) rfl
     case g9=>
      intro v w1 hx;(repeat intro (zq:v _ = _));intro bb hbb;subst hbb;intro K hK;go_simp;refine Q0d (Q9o w1 false 9 rfl) ?_;rintro e w2 ⟨rfl,rfl⟩;exact ⟨_,rfl,hK _ _ (Ext.refl _) rfl⟩
     case g12=>
      intro v w1 hx;(repeat intro (zq:v _ = _));intro bb hbb;subst hbb;intro K hK;go_simp;refine Q0d (Q7f w1 ar 1 1000 HAR.out) ?_;rintro e w2 ⟨rfl,rfl⟩;exact ⟨_,rfl,hK _ _ (Ext.refl _) rfl⟩
     case g15=>
      intro v w1 hx;(repeat intro (zq:v _ = _));intro bb hbb;subst hbb;intro K hK;go_simp;refine Q0d (Q7f w1 li 0 1024 HLI.out) ?_;rintro e w2 ⟨rfl,rfl⟩;exact ⟨_,rfl,hK _ _ (Ext.refl _) rfl⟩
     case g16=>
      intro v w1 hx;(repeat intro (zq:v _ = _));intro bb hbb;subst hbb;intro K hK;go_simp;exact hK _ _ (Ext.box _ _) (Q2b (l:=[0,0,0,0]) (by simp))
     case g17=>
      intro v w1 hx (q15:v 15 = _) (q16:Q0b w1 (v 16) [0,0,0,0]);intro bb hbb;subst hbb;intro K hK;go_simp;refine Q0d (Q5g w1 _ [0,0,0,0] q16 (by simp)) ?_
      rintro e w2 ⟨rfl,rfl⟩;exact ⟨_,rfl,hK _ _ (Ext.refl _) rfl⟩
     case g18=>
      intro v w1 hx (q0:v 0 = _) (q1:v 1 = _) (q2:v 2 = _) (q3:v 3 = _) (q4:v 4 = _) (q5:v 5 = _) (q6:v 6 = _) (q7:v 7 = _) (q8:v 8 = _) (q9:v 9 = _) (q10:v 10 = _) (q11:v 11 = _) (q12:v 12 = _) (q13:v 13 = _) (q14:v 14 = _) (q15:v 15 = _) _ (q17:v 17 = _);intro bb hbb;subst hbb;refine ⟨_,fun w=>?_,rfl⟩;go_simp
     case post =>
      intro v w1 hx;(iterate 16 intro (zq:v _ = _));intro (q16:Q0b w1 (v 16) [0,0,0,0]);(iterate 2 intro (zq:v _ = _));simp only [Flow.All,Flow.acts,Act.put];go_simp;have hxx:=HXB.out.trans (hdr.trans hx);obtain ⟨w9,hput,hm9,hb9,-⟩:=Q2u (P:=Tryz.prog) (HMPR.out.ext hxx) Y8a X7f nm (.bool true);have HM9:=Lib.hid hm9;have HL9:Hid (Below b W2 w9):=Lib.hid (Below.trans (Below.trans HLO.out (hxx.mono (Nat.le_of_lt HMPR.out.lt))) (hb9 b (Nat.le_refl _)));have c0:=(KL.out.ext (hdr.trans hx)).cell 0;simp only [Go.Tw.gA,Go.Tw.gB,Go.Tw.gC] at c0;clear hx hdr hxx hm9 hb9 q16 HLK HNMB KL HXB;(repeat clear zq);go_wp2;go_roundw
      case rel=>exact ⟨k + 1,by have:=HK.out; omega,by (try rw [HWK.out]); go_num,⟨_,HM9.out,HPUT.out⟩,HL9.out⟩
      case measure=>have:=HK.out; (try rw [HWK.out]); simp [intOf]; omega
   . obtain rfl:k = n:=by omega
     have hkI:¬ (k:Int) < (k:Int):=by omega
     have HKR:Hid (Blk wr g 40 #[.slice A k capa,.slice L m capl]):=Lib.hid ((HK1.out.ext HXM.out).below hlo (by have:=HB.out; have:=HG1.out; omega))
     have c1:=HKR.out.cell 1;simp only [Go.Tw.gA,Go.Tw.gB,Go.Tw.gC] at c1;have hgt:decide ((16:Int) < (m:Int)) = false:=by have:=HMB.out; simp; omega
     have hml:¬ (16:Int) < (m:Int):=by have:=HMB.out; omega
     have hkr:=HKR.out;rw [<- HN.out] at hkr;have hlk:=(H2.out.ext HXR.out).links;have hcall:=Y0g wr x _ _ g capa A hlk hkr HF.out.links (by rw [HM.out]; exact HMB.out)
     rw [HM.out] at hcall;have HCALL:=Lib.hid hcall;clear hmp hkn hlo hkr hlk hcall;go_wp2_with fail;refine HCALL.out.mono ?_;rintro e w4 ⟨r,rfl,hr,hx4⟩;have HX4:=Lib.hid (HXR.out.trans hx4);have HR:=Lib.hid hr;clear hr hx4 c1;go_wp2_with fail;refine (Q5g _ _ _ HR.out (fun y hy=>(List.mem_replicate.1 hy).2)).mono ?_;rintro e w5 ⟨rfl,hw⟩;subst hw;go_wp2;go_ret;exact ⟨rfl,HX4.out⟩
end Go.Proofs
namespace Go.Tw
open Go.RowKit Go.Flow
section
variable {α:Type} {enc:α -> List Value} {k:Nat}
def Q1u (cs:Array Value) (o:Nat):List Value -> Array Value
 | []=>cs
 | v :: vs=>Q1u (cs.setIfInBounds o v) (o + 1) vs
theorem X7n (o:Nat):∀ (vs:List Value) (cs:Array Value) ,(Q1u cs o vs).size = cs.size:=by
 intro vs
 induction vs generalizing o with
 | nil=>intro cs; rfl
 | cons v vs ih=>intro cs; rw [Q1u,ih]; simp
theorem Q3l:∀ (vs:List Value) (o:Nat) (cs:Array Value) (j:Nat),o + vs.length <= cs.size -> (Q1u cs o vs)[j]? = if o <= j /\ j < o + vs.length then vs[j - o]? else cs[j]?
 | [],o,cs,j,_=>by rw [Q1u,if_neg (by simp only [List.length_nil]; omega)]
 | v :: vs,o,cs,j,h=>by
   rw [List.length_cons] at h;rw [Q1u,Q3l vs (o + 1) _ j (by simp; omega)]
   by_cases h1:o + 1 <= j /\ j < o + 1 + vs.length
   . rw [if_pos h1,if_pos (by rw [List.length_cons]; omega),show j - o = (j - (o + 1)) + 1 from by omega]; rfl
   . rw [if_neg h1]
     by_cases h2:j = o
     . subst h2
       rw [if_pos (by rw [List.length_cons]; omega),Nat.sub_self]
       rw [Array.getElem?_setIfInBounds];rw [if_pos rfl,if_pos (by omega)]; rfl
     . rw [if_neg (by rw [List.length_cons]; omega),Array.getElem?_setIfInBounds,if_neg (fun e=>h2 e.symm)]
theorem Q5z {P:Program} {g off:Nat} {T:TypeId}:∀ (vs:List Value) (i:Nat) (w:World) (cs:Array Value),Blk w g T cs -> (∀ u ∈ vs,u.oneCell' = true) -> off + i + vs.length <= cs.size ->
    ∃ w',(storeCells ⟨g,off,none⟩ vs i).run P w = .ok () w' /\ Blk w' g T (Q1u cs (off + i) vs) /\ (∀ n,n <= g -> Below n w w') /\ ∀ k,k ≠ g -> w'.heap[k]? = w.heap[k]?
 | [],i,w,cs,h,_,hi=>⟨w,by simp [storeCells],h,fun _ _=>Below.refl _ _,fun _ _=>rfl⟩
 | v :: vs,i,w,cs,h,h1,hi=>by
   rw [List.length_cons] at hi;have hlt:off + i < cs.size:=by omega
   have h0:=h.cell (off + i);rw [Array.getElem?_eq_getElem hlt] at h0;have ea:(⟨g,off,none⟩:Addr).add i = ⟨g,off + i,none⟩:=by rw [addr_add]
   obtain ⟨w',hr,hb,hl,ho⟩:=Q5z (P:=P) (off:=off) vs (i + 1) (w.setCell ⟨g,off + i,none⟩ v) (cs.setIfInBounds (off + i) v) (h.set _ v) (fun u hu=>h1 u (List.mem_cons_of_mem _ hu)) (by rw [Array.size_setIfInBounds]; omega)
   refine ⟨w',?_,?_,fun n hn=>Below.trans ((Below.refl n w).setCell (p:=⟨g,off + i,none⟩) hn v) (hl n hn),fun k hk=>(ho k hk).trans (Below.heap_setCell _ _ _ _ hk)⟩
   . rw [storeCells,ea]
     simp only [Sem.run_bind,run_store P w _ v _ (h1 v (List.mem_cons_self ..)),h0,h.frozen (off + i),Bool.false_eq_true,if_false,Result.andThen_ok];exact hr
   . rw [Q1u]; exact hb
theorem X1p {P:Program} {w:World} (dT sT ty elem:TypeId) (hu:P.underlying dT = some (.slice elem)) {sz:Nat} (hs:∀ w,(sizeOf elem).run P w = .ok sz w) (n dcap scap:Nat) {g:Nat} {T:TypeId} {cur:Array Value} (hb:Blk w g T cur) (sp:Option Addr) (cs:List Value) (hlen:cs.length = n * sz)
    (hsrc:∀ j v,cs[j]? = some v -> ∃ b off,sp = some ⟨b,off,none⟩ /\ w.cell? ⟨b,off + j,none⟩ = some v) (hfit:cs.length <= cur.size) (h1:∀ v ∈ cs,v.oneCell' = true) :
    ∃ w',(Builtin.copy_ #[dT,sT] ty #[.slice (some ⟨g,0,none⟩) n dcap,.slice sp n scap]).run P w = .ok (goInt n) w' /\ Blk w' g T (Q1u cur 0 cs) /\ (∀ n,n <= g -> Below n w w') /\ ∀ k,k ≠ g -> w'.heap[k]? = w.heap[k]?:=by
 obtain ⟨w',hr,hb',hl,hoo⟩:=Q5z (P:=P) (off:=0) cs 0 w cur hb h1 (by simp; exact hfit)
 refine ⟨w',?_,hb',hl,hoo⟩;have hfc:(Builtin.firstCells sz n (.slice sp n scap)).run P w = .ok cs.toArray w:=by
  cases sp with
  | none =>
    have:cs = []:=by
     cases cs with
     | nil=>rfl
     | cons v vs=>obtain ⟨b,off,he,_⟩:=hsrc 0 v rfl; cases he
    subst this;simp [Builtin.firstCells]
  | some ad =>
    have hl2:=run_loadCells_list (P:=P) w ad cs (fun j v hv=>by
     obtain ⟨b,off,he,hc⟩:=hsrc j v hv;cases he;rw [addr_add]; exact hc)
    rw [hlen] at hl2
    simpa [Builtin.firstCells] using hl2
 simp [Builtin.copy_,run_underlying hu,Builtin.lenOf,hs,hfc,hr]
end
end Go.Tw
namespace Go.Proofs
open Go.RowKit Go.Tw Go.Flow
attribute [local go_sem] Oper.semAt_some
theorem Q9c (cur:Array Value) (vs:List Value) (h:vs.length = cur.size):Q1u cur 0 vs = vs.toArray:=by
 apply Array.ext_getElem?
 intro j;rw [Q3l _ _ _ _ (by omega)]
 by_cases hj:j < vs.length
 . rw [if_pos (by omega),Nat.sub_zero,List.getElem?_toArray]
 . rw [if_neg (by omega),Array.getElem?_eq_none (show cur.size <= j by omega)]
   symm
   rw [Array.getElem?_eq_none];rw [List.size_toArray]; omega
theorem Q6k {P:Program} {w:World} {ops:Array Oper} {rest:List Oper} {o:Oper} {a:Act} {Q:Exit -> Act -> World -> Prop} (hgd:o.guard = none) (d s:Operand) (dT sT:TypeId) (ho:o.op = .call { callee:=.builtin .copy,args:=#[d,s],argTypes:=#[dT,sT] })
    (elem:TypeId) (hu:P.underlying dT = some (.slice elem)) {sz:Nat} (hs:∀ w,(sizeOf elem).run P w = .ok sz w) {n dcap scap:Nat} {g:Nat} {sp:Option Addr} (hd:a.eval d = .slice (some ⟨g,0,none⟩) n dcap) (hsv:a.eval s = .slice sp n scap)
    {T:TypeId} {cur:Array Value} (hb:Blk w g T cur) (cs:List Value) (hlen:cs.length = n * sz) (hsrc:∀ j v,cs[j]? = some v -> ∃ b off,sp = some ⟨b,off,none⟩ /\ w.cell? ⟨b,off + j,none⟩ = some v) (hfit:cs.length <= cur.size) (h1:∀ v ∈ cs,v.oneCell' = true)
    (hK:∀ w',Blk w' g T (Q1u cur 0 cs) -> (∀ n,n <= g -> Below n w w') -> (∀ k,k ≠ g -> w'.heap[k]? = w.heap[k]?) -> wpList P ops Q rest (a.put o.dst (goInt n)) w'):wpList P ops Q (o :: rest) a w:=by
 refine wpList_plain hgd fun K' hK'=>?_;unfold Oper.wp;obtain ⟨w',hr,hb',hl,hoo⟩:=X1p (P:=P) dT sT o.type elem hu hs n dcap scap hb sp cs hlen hsrc hfit h1;have hr2:(execOp a.eval o).run P w = .ok (.value (goInt n)) w':=by
  unfold execOp;simp only [ho,resolve,invoke,builtin,Sem.run_bind,Sem.run_pure,Result.andThen_ok,List.map_toArray,List.map_cons,List.map_nil,hd,hsv,hr]
 rw [hr2];exact hK' _ _ (hK w' hb' hl hoo)
end Go.Proofs
namespace Go.Tw
open Go.RowKit Go.Flow
def idV (x:Value):Value:=x
def Reads (w:World) (vs:List Value) (ll:List (List Int)):Prop:=vs.length = ll.length /\ ∀ i,i < ll.length -> Q0b w (vs.getD i undef) (ll.getD i [])
theorem Reads.ext {w w':World} {vs:List Value} {ll:List (List Int)} (h:Reads w vs ll) (hx:Ext w w'):Reads w' vs ll:=⟨h.1,fun i hi=>(h.2 i hi).ext hx⟩
theorem Q0b.below {w w':World} {B:Nat} {v:Value} {l:List Int} (h:Q0b w v l) (hb:Below B w w') (hlow:∀ b o c,v = .slice (some ⟨b,o,none⟩) l.length c -> l ≠ [] -> b < B):Q0b w' v l:=by
 obtain ⟨c,⟨A,cap,hv,hn,hcap,hc⟩,h2⟩:=h;refine ⟨c,⟨A,cap,hv,hn,hcap,fun j hj=>?_⟩,h2⟩;obtain ⟨b,off,hA,h⟩:=hc j hj;refine ⟨b,off,hA,?_⟩;have:b < B:=hlow b off cap (by rw [hv,hA]) (fun e=>by rw [e] at hj; simp at hj)
 exact (hb.cell (p:=⟨b,off + j,none⟩) this).trans h
theorem Reads.snoc {w:World} {vs:List Value} {ll:List (List Int)} {v:Value} {l:List Int} (h:Reads w vs ll) (hv:Q0b w v l):Reads w (vs ++ [v]) (ll ++ [l]):=by
 refine ⟨by simp [h.1],fun i hi=>?_⟩
 rw [List.length_append,List.length_singleton] at hi
 by_cases hlt:i < ll.length
 . have e1:(vs ++ [v]).getD i undef = vs.getD i undef:=by simp [List.getElem?_append_left (show i < vs.length by rw [h.1]; exact hlt)]
   have e2:(ll ++ [l]).getD i [] = ll.getD i []:=by simp [List.getElem?_append_left hlt]
   rw [e1,e2]; exact h.2 i hlt
 . have e:i = ll.length:=by omega
   have e1:(vs ++ [v]).getD i undef = v:=by rw [e,<- h.1]; simp
   have e2:(ll ++ [l]).getD i [] = l:=by rw [e]; simp
   rw [e1,e2]; exact hv
theorem X5a {α:Type} (x d:α):∀ (n:Nat) (xs:List α) (i:Nat),n <= xs.length -> (xs.take n ++ [x] ++ xs.drop n).getD i d = if i < n then xs.getD i d else if i = n then x else xs.getD (i - 1) d
 | 0,xs,i,_=>by cases i <;> simp
 | n + 1,[],i,h=>by simp at h
 | n + 1,y :: ys,0,_=>by simp
 | n + 1,y :: ys,i + 1,h=>by
   have:=X5a x d n ys i (by simpa using h)
   simp only [List.take_succ_cons,List.drop_succ_cons,List.cons_append,List.getD_cons_succ,this]
   by_cases h1:i < n
   . have h1':i + 1 < n + 1:=by omega
     simp only [h1,h1',if_true]
   . have h1':¬ (i + 1 < n + 1):=by omega
     by_cases h2:i = n
     . subst h2
       simp
     . have h2':¬ (i + 1 = n + 1):=by omega
       obtain ⟨m,rfl⟩:∃ m,i = m + 1:=⟨i - 1,by omega⟩
       simp only [h1,h1',h2,h2',if_false];simp
theorem Reads.insert {w:World} {vs:List Value} {ll:List (List Int)} {v:Value} {l:List Int} {n:Nat} (h:Reads w vs ll) (hv:Q0b w v l) (hn:n <= ll.length):Reads w (vs.take n ++ [v] ++ vs.drop n) (ll.take n ++ [l] ++ ll.drop n):=by
 have hl:=h.1;refine ⟨by simp [hl],fun i hi=>?_⟩
 rw [X5a _ _ _ _ _ (by omega),X5a _ _ _ _ _ hn]
 simp only [List.length_append,List.length_take,List.length_drop,List.length_singleton] at hi
 split
 . exact h.2 i (by omega)
 . split
   . exact hv
   . exact h.2 (i - 1) (by omega)
theorem Q0g.Z5d {w:World} {base:Nat} {e:TypeId} {v:Value} {vs:List Value} {ll:List (List Int)} (h:Q0g w base e idV v vs) (hr:Reads w vs ll) (hl:ll.length <= 17592186043904):Q3j w v ll:=by
 refine ⟨fun k=>vs.getD k undef,?_,fun j hj=>?_⟩
 . rw [<- hr.1]
   exact h.row (by rw [hr.1]; exact hl) _ (fun k hk=>by simp [hk,idV])
 . have:=hr.2 j hj
   rw [Q0r _ hj] at this
   simpa using this
theorem Q3j.opened {w:World} {v:Value} {ll:List (List Int)} (h:Q3j w v ll) :
    ∃ A cap,v = .slice A ll.length cap /\ ll.length <= 17592186043904 /\ ll.length <= cap /\ ∀ k,k < ll.length -> ∃ b off m,A = some ⟨b,off,none⟩ /\ b < w.heap.size /\ w.cell? ⟨b,off + k,none⟩ = some m /\ Q0b w m (ll.getD k []):=by
 obtain ⟨c,⟨A,cap,hv,hn,hcap,hc⟩,h2⟩:=h;refine ⟨A,cap,hv,hn,hcap,fun k hk=>?_⟩;obtain ⟨b,off,hA,h⟩:=hc k (by omega)
 refine ⟨b,off,c k,hA,World.block_lt_of_cell? w _ h,h,?_⟩;have:=h2 k hk;simp only [Nat.mul_one,Nat.add_zero] at this;rw [Q0r _ hk]; exact this
theorem Q0g.cells {α:Type} {w:World} {base:Nat} {e:TypeId} {enc:α -> Value} {v:Value} {xs:List α} (h:Q0g w base e enc v xs) :
    ∃ A c,v = .slice A xs.length c /\ xs.length <= c /\ (∀ j (hj:j < xs.length),∃ g,A = some ⟨g,0,none⟩ /\ base <= g /\ g < w.heap.size /\ w.cell? ⟨g,0 + j,none⟩ = some (enc xs[j])):=by
 obtain ⟨_,h2⟩:=h
 rcases h2 with ⟨rfl,h0⟩ | ⟨g,cap,cur,rfl,hb,hg,hcap,_,_,htake⟩
 . exact ⟨none,0,by rw [h0],by omega,fun j hj=>by omega⟩
 . refine ⟨some ⟨g,0,none⟩,cap,rfl,hcap,fun j hj=>⟨g,rfl,hb,(Array.getElem?_eq_some_iff.1 hg).1,?_⟩⟩
   rw [Nat.zero_add];have h1:=congrArg (fun l=>l[j]?) htake;simp only [Nat.mul_one,List.getElem?_take,hj,if_true,List.getElem?_map,List.getElem?_eq_getElem hj,Option.map_some] at h1;simp only [World.cell?,hg]
   simpa using h1
theorem Q0g.cells2 {α:Type} {w:World} {base:Nat} {e:TypeId} {enc:α -> Value} {v:Value} {xs:List α} (h:Q0g w base e enc v xs) :
    (v = .slice none 0 0 /\ xs = []) ∨ ∃ g c,v = .slice (some ⟨g,0,none⟩) xs.length c /\ xs.length <= c /\ base <= g /\ g < w.heap.size /\ ∀ j (hj:j < xs.length),w.cell? ⟨g,0 + j,none⟩ = some (enc xs[j]):=by
 obtain ⟨_,h2⟩:=h
 rcases h2 with ⟨rfl,h0⟩ | ⟨g,cap,cur,rfl,hb,hg,hcap,_,_,htake⟩
 . exact .inl ⟨rfl,List.length_eq_zero_iff.1 h0⟩
 . refine .inr ⟨g,cap,rfl,hcap,hb,(Array.getElem?_eq_some_iff.1 hg).1,fun j hj=>?_⟩
   rw [Nat.zero_add];have h1:=congrArg (fun l=>l[j]?) htake;simp only [Nat.mul_one,List.getElem?_take,hj,if_true,List.getElem?_map,List.getElem?_eq_getElem hj,Option.map_some] at h1;simp only [World.cell?,hg]
   simpa using h1
theorem Q0g.weaken {α:Type} {w:World} {base base':Nat} {e:TypeId} {enc:α -> Value} {v:Value} {xs:List α} (h:Q0g w base e enc v xs) (hb:base' <= base):Q0g w base' e enc v xs:=by
 obtain ⟨h1,h2⟩:=h;refine ⟨h1,?_⟩
 rcases h2 with h2 | ⟨g,cap,cur,hv,hbg,r⟩
 . exact .inl h2
 . exact .inr ⟨g,cap,cur,hv,Nat.le_trans hb hbg,r⟩
theorem Q0b.one {w:World} {v:Value} {l:List Int} (h:Q0b w v l):(idV v).oneCell' = true:=by
 obtain ⟨A,cap,rfl,_⟩:=h.opened;rfl
theorem Q0b.cells {w:World} {v:Value} {l:List Int} (h:Q0b w v l):v.cells = #[v]:=by
 obtain ⟨A,cap,rfl,_⟩:=h.opened;rfl
theorem Reads.one {w:World} {vs:List Value} {ll:List (List Int)} (h:Reads w vs ll):∀ y ∈ vs,(idV y).oneCell' = true:=by
 intro y hy;obtain ⟨i,hi,rfl⟩:=List.getElem_of_mem hy;have:=h.2 i (by rw [<- h.1]; exact hi)
 rw [Q0r _ hi] at this;exact this.one
def Q0p (w:World) (v:Value) (B:Nat) (e:TypeId):Prop:=∃ g,v = .slice (some ⟨g,0,none⟩) 0 0 /\ B <= g /\ w.heap[g]? = some (.cells #[] e (0,0))
theorem Q0p.ext {w w':World} {v:Value} {B:Nat} {e:TypeId} (h:Q0p w v B e) (hx:Ext w w'):Q0p w' v B e :=
 let ⟨g,h1,h2,h3⟩:=h; ⟨g,h1,h2,(Below.block hx g (Array.getElem?_eq_some_iff.1 h3).1).trans h3⟩
theorem Q0p.made (w:World) (B:Nat) (e:TypeId) (h:B <= w.heap.size):Q0p (w.alloc (.cells #[] e)) (.slice (some ⟨w.heap.size,0,none⟩) 0 0) B e:=⟨_,rfl,h,heap_alloc_new w _⟩
def Q2f (w:World) (v:Value) (x:Value):Prop:=∃ g,v = .slice (some ⟨g,0,none⟩) 1 1 /\ w.cell? ⟨g,0,none⟩ = some x
theorem Q2f.ext {w w':World} {v x:Value} (h:Q2f w v x) (hx:Ext w w'):Q2f w' v x:=let ⟨g,h1,h2⟩:=h; ⟨g,h1,hx.cell h2⟩
theorem Q2f.made (w:World) (x:Value) (e:TypeId):Q2f (w.alloc (.cells #[x] e)) (.slice (some ⟨w.heap.size,0,none⟩) 1 1) x:=⟨_,rfl,X7z _ _ _ _⟩
theorem Q2f.src {w:World} {v x:Value} (h:Q2f w v x):Src w idV v [x]:=by
 obtain ⟨g,rfl,hc⟩:=h;refine ⟨_,_,rfl,fun j hj=>⟨g,0,rfl,?_⟩⟩;obtain rfl:j = 0:=by rw [List.length_singleton] at hj; omega
 exact hc
theorem X4k {w w1 w2:World} (hx:Ext w.drew w1) (hb:Below w.heap.size w1 w2):Ext w w2:=Below.trans (((Ext.refl w).drew).trans hx) hb
theorem Q0b.made (w:World) (xs:List Int) (e:TypeId) (h:xs.length <= 17592186043904):Q0b (w.alloc (.cells (xs.map (Value.int .i64)).toArray e)) (.slice (some ⟨w.heap.size,0,none⟩) xs.length xs.length) xs:=by
 refine ⟨fun k=>((xs.map (Value.int .i64))[k]?).getD undef,⟨_,_,rfl,h,Nat.le_refl _,fun j hj=>⟨_,0,rfl,?_⟩⟩,fun j hj=>?_⟩
 . have hj':j < xs.length:=by omega
   rw [Nat.zero_add,X7z];simp [hj']
 . simp [hj]
end Go.Tw
namespace Go.Tw
open Go.RowKit
def Q5f (p:Prop):Prop:=p
theorem halted {p:Prop} (h:Q5f p):p:=h
def Q3f:World -> Value -> List (List Bool) -> Prop:=Rows 1 fun w c x=>Q2c w (c 0) x
theorem Q3f.ext {w w':World} {v:Value} {l:List (List Bool)} (h:Q3f w v l) (hx:Ext w w'):Q3f w' v l:=Rows.ext (fun _ _ _ _ hx h=>h.ext hx) h hx
theorem Q3f.opened {w:World} {v:Value} {ll:List (List Bool)} (h:Q3f w v ll) :
    ∃ A cap,v = .slice A ll.length cap /\ ll.length <= 17592186043904 /\ ll.length <= cap /\ ∀ k,k < ll.length -> ∃ b off x,A = some ⟨b,off,none⟩ /\ b < w.heap.size /\
     w.cell? ⟨b,off + k,none⟩ = some x /\ Q2c w x (ll.getD k []):=by
 obtain ⟨c,⟨A,cap,hv,hn,hcap,hc⟩,h2⟩:=h;refine ⟨A,cap,hv,by omega,by omega,fun k hk=>?_⟩
 obtain ⟨b,off,hA,h0⟩:=hc k (by omega)
 refine ⟨b,off,c k,hA,World.block_lt_of_cell? w _ h0,h0,?_⟩;have h3:=h2 k hk;rw [Q0r _ hk]
 simpa using h3
def Q7u (w:World) (vs:List Value) (ll:List (List Bool)):Prop:=vs.length = ll.length /\ ∀ i,i < ll.length -> Q2c w (vs.getD i undef) (ll.getD i [])
theorem Q7u.nil (w:World):Q7u w [] []:=⟨rfl,fun _ hi=>absurd hi (Nat.not_lt_zero _)⟩
theorem Q7u.ext {w w':World} {vs:List Value} {ll:List (List Bool)} (h:Q7u w vs ll) (hx:Ext w w'):Q7u w' vs ll:=⟨h.1,fun i hi=>(h.2 i hi).ext hx⟩
theorem Q7u.snoc {w:World} {vs:List Value} {ll:List (List Bool)} {v:Value} {l:List Bool} (h:Q7u w vs ll) (hv:Q2c w v l):Q7u w (vs ++ [v]) (ll ++ [l]):=by
 refine ⟨by simp [h.1],fun i hi=>?_⟩
 by_cases hlt:i < ll.length
 . have e1:(vs ++ [v]).getD i undef = vs.getD i undef:=by simp [List.getD_eq_getElem?_getD,List.getElem?_append_left (show i < vs.length by rw [h.1]; exact hlt)]
   have e2:(ll ++ [l]).getD i [] = ll.getD i []:=by simp [List.getD_eq_getElem?_getD,List.getElem?_append_left hlt]
   rw [e1,e2]; exact h.2 i hlt
 . have he:i = ll.length:=by simp at hi; omega
   subst he;have e1:(vs ++ [v]).getD ll.length undef = v:=by rw [<- h.1]; simp
   have e2:(ll ++ [l]).getD ll.length [] = l:=by simp
   rw [e1,e2]; exact hv
theorem Q0g.Z5t {w:World} {base:Nat} {e:TypeId} {v:Value} {vs:List Value} {ll:List (List Bool)} (h:Q0g w base e idV v vs) (hr:Q7u w vs ll) (hl:ll.length <= 17592186043904):Q3f w v ll:=by
 refine ⟨fun k=>vs.getD k undef,?_,fun j hj=>?_⟩
 . rw [<- hr.1]
   exact h.row (by rw [hr.1]; exact hl) _ (fun k hk=>by simp [hk,idV])
 . have:=hr.2 j hj
   rw [Q0r _ hj] at this
   simpa using this
theorem X6n {α β:Type} {w w':World} {b1 b2:Nat} {T E:TypeId} {enc:α -> Value} {enc':β -> Value} {u v:Value} {l:List α} {us:List β} (h:Q0g w b1 T enc u l) (ho:Q0g w b2 E enc' v us) (hTE:T ≠ E) (hg:w.grownBy w' v.ownBlock):Q0g w' b1 T enc u l:=by
 obtain ⟨h1,h2⟩:=h;refine ⟨h1,?_⟩
 rcases h2 with h2 | ⟨g,cap,cur,hv,hbg,hgl,r⟩
 . exact .inl h2
 . refine .inr ⟨g,cap,cur,hv,hbg,(hg.block g (Array.getElem?_eq_some_iff.1 hgl).1 fun e=>?_).trans hgl,r⟩
   obtain ⟨o1,o2⟩:=ho
   rcases o2 with ⟨rfl,_⟩ | ⟨g',cap',cur',rfl,_,hg',_⟩
   . cases e
   . obtain rfl:g' = g:=by simpa [Value.ownBlock,eq_comm] using e
     rw [hgl] at hg';injection hg' with h;injection h with _ h;exact hTE h
def Q7d {α:Type} (w:World) (T:TypeId) (enc:α -> Value) (vs:List Value) (ll:List (List α)):Prop:=vs.length = ll.length /\ ∀ i,i < ll.length -> Q0g w 0 T enc (vs.getD i undef) (ll.getD i [])
section
variable {α:Type} {w w':World} {T:TypeId} {enc:α -> Value} {vs:List Value} {ll:List (List α)}
theorem Q7d.nil (w:World) (T:TypeId) (enc:α -> Value):Q7d w T enc [] []:=⟨rfl,fun _ hi=>absurd hi (Nat.not_lt_zero _)⟩
theorem Q7d.ext (h:Q7d w T enc vs ll) (hx:Ext w w'):Q7d w' T enc vs ll:=⟨h.1,fun i hi=>(h.2 i hi).below hx⟩
theorem Q7d.grown {β:Type} {b2:Nat} {E:TypeId} {enc':β -> Value} {v:Value} {us:List β} (h:Q7d w T enc vs ll) (ho:Q0g w b2 E enc' v us) (hTE:T ≠ E) (hg:w.grownBy w' v.ownBlock):Q7d w' T enc vs ll :=
 ⟨h.1,fun i hi=>X6n (h.2 i hi) ho hTE hg⟩
theorem Q7d.snoc {v:Value} {l:List α} {b:Nat} (h:Q7d w T enc vs ll) (hv:Q0g w b T enc v l):Q7d w T enc (vs ++ [v]) (ll ++ [l]):=by
 refine ⟨by simp [h.1],fun i hi=>?_⟩
 by_cases hlt:i < ll.length
 . have e1:(vs ++ [v]).getD i undef = vs.getD i undef:=by simp [List.getD_eq_getElem?_getD,List.getElem?_append_left (show i < vs.length by rw [h.1]; exact hlt)]
   have e2:(ll ++ [l]).getD i [] = ll.getD i []:=by simp [List.getD_eq_getElem?_getD,List.getElem?_append_left hlt]
   rw [e1,e2]; exact h.2 i hlt
 . have he:i = ll.length:=by simp at hi; omega
   subst he;have e1:(vs ++ [v]).getD ll.length undef = v:=by rw [<- h.1]; simp
   have e2:(ll ++ [l]).getD ll.length [] = l:=by simp
   rw [e1,e2]; exact hv.weaken (Nat.zero_le _)
end
theorem Q7d.Z5c {w:World} {T:TypeId} {vs:List Value} {ll:List (List Bool)} (h:Q7d w T .bool vs ll) (hl:∀ i,i < ll.length -> (ll.getD i []).length <= 17592186043904):Q7u w vs ll:=⟨h.1,fun i hi=>(h.2 i hi).bools (hl i hi)⟩
end Go.Tw
