/- Contract: the numbers that are written in the bits of a number. What the listed tables give; small facts on the program for the rows. Contracts: a list of sets as a list of lists. Contract: slices.SortFunc over sets. -/
import Derived.Test.YthfanledageoeaaGreatDoorYb21
import Derived.Test.YthfanledageoeaaGreatDoorYb01
import Derived.Test.YthfanledageoeaaGreatDoorRows
import Derived.Test.YthfanledageoeaaGreatDoorTie
import Derived.Test.YthfanledageoeaaGreatDoorCards
import Derived.ProofKit
import Derived.OpenShut
import Derived.LaidMore
import Derived.Lay
import Derived.Lib.LaidTab
import Derived.SevenTiedAt
import Derived.Stop.Joined
set_option linter.unusedVariables false
set_option linter.unusedSimpArgs false
set_option linter.constructorNameAsVariable false
namespace Go.Proofs
open Go.RowKit Go.Tw Go.Flow
def Tab (w:World):Prop:=TabAt 1 Lib.deBruijn64tab w
theorem Tab.ext {w w':World} (h:Tab w) (hx:Ext w w'):Tab w':=fun j hj=>hx.cell (h j hj)
theorem low_bits {a:Nat} (h0:a ≠ 0) (h:a < 65536):∃ k,Lib.ctz 64 a = k ∧ k < 16 ∧ a.testBit k = true ∧ ∀ j,j < k → a.testBit j = false:=by
 have h1:2 ^ 16 = 65536:=rfl
 obtain ⟨m,hm,hk⟩:=Lib.ctzFrom_spec 64 a (by omega) (Nat.lt_of_lt_of_le h (by decide))
 have e:Lib.ctz 64 a = Lib.ctzFrom 64 a:=by unfold Lib.ctz; rw [if_neg h0]
 rw [← e] at hm hk
 obtain ⟨k,hkk⟩:∃ k,Lib.ctz 64 a = k:=⟨_,rfl⟩
 rw [hkk] at hm hk
 have hb:a.testBit k = true:=by rw [hm,Nat.testBit_two_pow_mul]; simp
 refine ⟨k,hkk,?_,hb,fun j hj=>?_⟩
 · apply Nat.lt_of_not_le
   intro hge
   rw [Nat.testBit_lt_two_pow (Nat.lt_of_lt_of_le (by omega) (Nat.pow_le_pow_right (n:=2) (by omega) hge))] at hb
   cases hb
 · rw [hm,Nat.testBit_two_pow_mul]
   simp
   omega
theorem filter_split (p:Nat → Bool) {k n:Nat} (h:k < n):(List.range n).filter p = (List.range k).filter p ++ ((if p k then [k] else []) ++ (List.range' (k + 1) (n - k - 1)).filter p):=by
 have e:List.range n = List.range k ++ (k :: List.range' (k + 1) (n - k - 1)):=by
  rw [List.range_eq_range',List.range_eq_range']
  have h1:n = k + (1 + (n - k - 1)):=by omega
  have h2:k :: List.range' (k + 1) (n - k - 1) = List.range' k (1 + (n - k - 1)):=by rw [Nat.add_comm 1,List.range'_succ]
  rw [h2]
  conv=>lhs; rw [h1]
  rw [← List.range'_append]
  simp
 rw [e,List.filter_append,List.filter_cons]
 split <;> simp
theorem bitsOf_low {a k:Nat} (hk:k < 16) (hb:a.testBit k = true) (hl:∀ j,j < k → a.testBit j = false):bitsOf a = (k:Int) :: bitsOf (clearB a (2 ^ k)):=by
 unfold bitsOf
 rw [filter_split _ hk,filter_split (fun i=>(clearB a (2 ^ k)).testBit i) hk]
 have e1:(List.range k).filter (a.testBit ·) = []:=by
  rw [List.filter_eq_nil_iff]; intro j hj; rw [hl j (List.mem_range.1 hj)]; simp
 have e2:(List.range k).filter (fun i=>(clearB a (2 ^ k)).testBit i) = []:=by
  rw [List.filter_eq_nil_iff]; intro j hj; simp only [clearB_bit,hl j (List.mem_range.1 hj)]; simp
 have e3:(clearB a (2 ^ k)).testBit k = false:=by rw [clearB_bit,Nat.testBit_two_pow_self]; simp
 have e4:(List.range' (k + 1) (16 - k - 1)).filter (a.testBit ·) = (List.range' (k + 1) (16 - k - 1)).filter (fun i=>(clearB a (2 ^ k)).testBit i):=by
  apply List.filter_congr
  intro j hj
  have:=List.mem_range'_1.1 hj
  rw [clearB_bit,Nat.testBit_two_pow_of_ne (by omega)]
  simp
 rw [e1,e2,e4]
 simp [hb,e3]
theorem clearB_le (a b:Nat):clearB a b ≤ a:=by
 have h:clearB a b &&& a = clearB a b:=by
  apply Nat.eq_of_testBit_eq; intro i
  rw [Nat.testBit_and,clearB_bit]
  cases a.testBit i <;> simp
 rw [← h]
 exact Nat.and_le_right
theorem clearB_low {a k:Nat} (hb:a.testBit k = true):clearB a (2 ^ k) < a:=by
 refine Nat.lt_of_le_of_ne (clearB_le a _) fun e=>?_
 have:=congrArg (fun x=>x.testBit k) e
 simp only [clearB_bit,hb,Nat.testBit_two_pow_self] at this
 cases this
theorem bitsOf_zero:bitsOf 0 = []:=rfl
theorem bitsOf_len (s:Nat):(bitsOf s).length ≤ 16:=by
 unfold bitsOf
 rw [List.length_map]
 exact Nat.le_trans (List.length_filter_le _ _) (by simp)
theorem tz_any (a:Nat) (w:World) (h:a < 65536) (hT:Tab w):Calls Tryz.prog 147 #[.int .u64 a] w fun e w'=>e = .returned (.int .i64 (Lib.ctz 64 a)) ∧ w' = w :=
 Any7.bits_TrailingZeros Tryz.lays27t a (by omega) w (fun _=>hT)
set_option maxRecDepth 100000 in
set_option maxHeartbeats 1000000 in
theorem members_any (w:World) (s:Nat) (hs:s < 65536) (hT:Tab w) :
    Calls Tryz.prog 122 #[.int .i64 s] w fun e w'=>∃ u,e = .returned u ∧ Own1 w' w.heap.size 3 (.int .i64) u (bitsOf s) ∧ Ext w w':=by
 obtain ⟨i0,hi,hz0,hz1,hz2⟩:=info_parts Tryz.info3
 have HT:=Lib.hid hT
 have hbs:=bitsOf_len s
 clear hT
 go_enter Tryz.func122,Tryz.ntmps122
 go_wp2
 go_loopw [0,3,4] (fun q u _ wr=>∃ (a:Nat) (l:List Int),q = .int .i64 a ∧ a < 65536 ∧ l ++ bitsOf a = bitsOf s ∧ Own1 wr w.heap.size 3 (.int .i64) u l ∧ Ext w wr) (fun q _ _ _=>(intOf q).toNat)
 case atStart=>exact ⟨s,[],rfl,hs,rfl,Own1.nil _ _ _ _,Ext.refl _⟩
 case round =>
  obtain ⟨a,l,rfl,ha,hla,hown,hx⟩:=hrel
  by_cases hz:a = 0
  · subst hz
    have HL:Hid (l = bitsOf s):=by rw [bitsOf_zero,List.append_nil] at hla; exact hla
    clear hla
    go_wp2
    go_ret
    exact ⟨_,rfl,by rw [← HL.out]; exact hown,hx⟩
  · obtain ⟨k,hck,hk,hb,hl⟩:=low_bits hz ha
    have hd:=bitsOf_low hk hb hl
    have hlt:=clearB_low hb
    have hcl:=clearB_lt (n:=16) (2 ^ k) (show a < 2 ^ 16 by omega)
    have hp:=pow64 (n:=k) (by omega)
    have hp2:(2:Nat) ^ k < 2 ^ 62:=Nat.pow_lt_pow_right (by omega) (by omega)
    have han:=andNot64 (a:=a) (b:=2 ^ k) (by omega) hp2
    have hlen:l.length ≤ 16:=by
     have:=congrArg List.length hla
     rw [List.length_append] at this
     omega
    rw [hd] at hla
    have htz:∀ w',Ext w w' → Calls Tryz.prog 147 #[.int .u64 a] w' fun e w''=>e = .returned (.int .i64 k) ∧ w'' = w':=by
     intro w' hx'
     have:=tz_any a w' ha (HT.out.ext hx')
     rw [hck] at this
     exact this
    have HTZ:=Lib.hid htz
    have hcv:IntKind.u64.wrap (a:Int) = (a:Int):=by unfold IntKind.wrap; simp only [IntKind.signed,IntKind.bits]; simp; omega
    have hne:(((a:Nat):Int) != 0) = true:=by simp; omega
    obtain ⟨Z,hZ⟩:∃ Z,2 ^ k = Z:=⟨_,rfl⟩
    obtain ⟨Y,hY⟩:∃ Y,clearB a Z = Y:=⟨_,rfl⟩
    have hk62:(k:Int) < 64:=by omega
    rw [hZ] at hp hla han hlt hcl
    rw [hY] at hla han hlt hcl
    have HLA:=Lib.hid hla
    clear htz hck hb hl hd hla hZ hY hp2 hbs
    go_wp2_with (first | (go_at_call 147; refine (HTZ.out _ hx).mono ?_; rintro e w9 ⟨rfl,rfl⟩) | (at_builtin; refine wpList_append_own _ rfl _ _ 172 rfl (w.heap.size) 3 i0 (.int .i64 0) 1 8 Tryz.underlying172 hi hz0 hz1 hz2 rfl (by decide) _ _ _ rfl (World.ownsRow.alloc hown _) ⟨w9.heap.size,0,none⟩ 1 1 [.int .i64 k] rfl rfl ?_ ?_ ?_ ?_ ?_ ?_; exact one_new _ _ _; (focus (simp [Value.oneCell'])); (focus (unfold maxLen; omega)); (focus omega); (focus (have:=hx.size; simp at this ⊢; omega)); intro v' w1 hown' hgrow _))
    have hx':=ext_grown hx hown (Nat.le_refl _) hgrow
    go_wp2
    go_roundw
    case rel=>exact ⟨Y,l ++ [(k:Int)],by go_num,by omega,by rw [List.append_assoc]; exact HLA.out,Own1.snoc hown',hx'⟩
    case measure=>simp [intOf]; omega
end Go.Proofs
namespace Go.Proofs.YthfanledageoeaaGreatDoor
open Go.ChangeShapes Go.WideShapes Go.ChangeAt Go.RowKit Go.Tw
theorem own:ownKnob Tryz.prog.godebug = none:=by kernel_rfl
theorem laidOut:laidOutB Tryz.prog = true:=by kernel_rfl
def laidL:List (String × DataW Unit):=Rows.faultSetsRow.laid
theorem tabData64:(Rows.laid_math_bits_deBruijn64tab:DataW Unit) = Lib.tabData .u8 (List.map (fun n:Nat=>(n:Int)) Lib.deBruijn64tab):=by kernel_rfl
theorem tab_of_laid {W:World} (h:laidMetH Tryz.prog laidL W):Tab W:=by
 rw [MakeChecks.laidMetH_plain _ _ _ (by kernel_rfl)] at h
 obtain ⟨ps,⟨g0,t0,cs0,f0,p0,q0,hg0,ht0,hv0,hd0,⟨g1,t1,cs1,f1,p1,q1,hg1,ht1,hv1,hd1,_⟩,_⟩,_,_⟩:=h
 obtain rfl:=Option.some.inj ((show Tryz.prog.globalNamed (laidL[1]?.map (·.1)).get! = some 1 by kernel_rfl).symm.trans hg1)
 obtain ⟨t,ht⟩:∃ t,(Tryz.prog.globals[1]?).map (·.type) = some t:=⟨_,ht1⟩
 obtain rfl:=Option.some.inj (ht.symm.trans ht1)
 have ht2:(Tryz.prog.globals[1]?).map (·.type) = some 219:=by kernel_rfl
 obtain rfl:=Option.some.inj (ht2.symm.trans ht)
 rw [tabData64] at hd1
 have hu8:Tryz.prog.cellsOf 5 = 1:=by kernel_rfl
 have hc64:Tryz.prog.cellsOf 219 = 64:=by kernel_rfl
 have hcs:=Lib.cells_of_tab Tryz.underlying219 Tryz.underlying5 hu8 hc64 hd1
 intro j hj
 have:=World.var?_cell hg1 hv1 j
 rw [this,← Array.getElem?_toList,hcs]
 simp [hj]
end Go.Proofs.YthfanledageoeaaGreatDoor
namespace Go.Proofs
open Go.RowKit Go.Tw Go.Flow
theorem same_any (w:World) (x:Value):Calls Tryz.prog 126 #[x] w fun e w'=>e = .returned x ∧ w = w':=by
 go_enter Tryz.func126,Tryz.ntmps126
 go_wp2
 go_ret
 exact ⟨rfl,rfl⟩
theorem reads_take_snoc {w:World} {vs:List Value} {ll:List (List Int)} {v:Value} {k:Nat} (h:Reads w vs (ll.take k)) (hk:k < ll.length) (hv:IsInts w v (ll.getD k [])):Reads w (vs ++ [v]) (ll.take (k + 1)):=by
 have e:ll.take (k + 1) = ll.take k ++ [ll.getD k []]:=by rw [List.take_succ_eq_append_getElem hk]; simp [hk]
 rw [e]
 exact h.snoc hv
set_option maxRecDepth 100000 in
set_option maxHeartbeats 1000000 in
theorem mappedS_any (w:World) (v:Value) (ll:List (List Int)) (hv:IsIntss w v ll) (hle:ll.length ≤ 4096) :
    Calls Tryz.prog 125 #[v,.func (.func 126) #[] #[]] w fun e w'=>∃ x,e = .returned x ∧ IsIntss w' x ll ∧ Ext w w':=by
 obtain ⟨i0,hi,hz0,hz1,hz2⟩:=info_parts Tryz.info39
 obtain ⟨A,cap,rfl,hl,hcap,hc⟩:=hv.opened
 have HC:=Lib.hid hc
 clear hv hc
 go_enter Tryz.func125,Tryz.ntmps125
 go_wp2
 go_loopw [5,10] (fun o i wr=>∃ (k:Nat) (vs:List Value),k ≤ ll.length ∧ i = .int .i64 k ∧ Own1 wr w.heap.size 39 idV o vs ∧ Reads w vs (ll.take k) ∧ Ext w wr) (fun _ i _=>ll.length - (intOf i).toNat)
 case atStart=>exact ⟨0,[],Nat.zero_le _,rfl,Own1.nil _ _ _ _,⟨rfl,fun i hi=>by simp at hi⟩,Ext.refl _⟩
 case round =>
  obtain ⟨k,vs,hk,rfl,hown,hrd,hx⟩:=hrel
  by_cases hlt:k < ll.length
  · obtain ⟨b,off,m,rfl,hbw,hcell,hm⟩:=HC.out k hlt
    obtain ⟨Am,cm,rfl,_,_,_⟩:=hm.opened
    obtain ⟨ln,hln⟩:∃ ln,(ll.getD k []).length = ln:=⟨_,rfl⟩
    rw [hln] at hcell hm
    have HM:=Lib.hid hm
    clear hln
    replace hcell:=hx.cell hcell
    have hvs:vs.length = k:=by rw [hrd.1,List.length_take]; omega
    have HRD:=Lib.hid hrd
    clear hm hrd
    go_wp2_with (first | (go_at_call 126; refine (same_any _ _).mono ?_; rintro e w9 ⟨rfl,rfl⟩) | (at_builtin; refine wpList_append_own _ rfl _ _ 29 rfl (w.heap.size) 39 i0 (.slice none 0 0) 1 24 Tryz.underlying29 hi hz0 hz1 hz2 rfl (by decide) _ _ _ rfl (World.ownsRow.alloc hown _) ⟨wr.heap.size,0,none⟩ 1 1 [.slice Am ln cm] rfl rfl ?_ ?_ ?_ ?_ ?_ ?_; exact one_new _ _ _; (focus (simp [Value.oneCell'])); (focus (unfold maxLen; omega)); (focus omega); (focus (have:=hx.size; simp at this ⊢; omega)); intro v' w1 hown' hgrow _))
    have hx':=ext_grown hx hown (Nat.le_refl _) hgrow
    go_wp2
    go_roundw
    case rel=>exact ⟨k + 1,vs ++ [.slice Am ln cm],by omega,by go_num,Own1.snoc (x:=Value.slice Am ln cm) hown',reads_take_snoc HRD.out hlt HM.out,hx'⟩
    case measure=>simp [intOf]; omega
  · have HE:Hid (ll.take k = ll):=by rw [List.take_of_length_le (by omega)]; exact rfl
    have hvl:vs.length ≤ 17592186043904:=by rw [hrd.1,List.length_take]; omega
    have HRD:=Lib.hid hrd
    clear hrd
    go_wp2
    go_ret
    exact ⟨_,rfl,hown.intss (by rw [← HE.out]; exact HRD.out.ext hx) (by omega),hx⟩
end Go.Proofs
namespace Go.Proofs
open Go.RowKit Go.Tw Go.Flow Go.Sort
theorem cmpI_lt (x y:Int):cmpI x y < 0 ↔ x < y:=by unfold cmpI; split <;> (try split) <;> omega
theorem cmpL_cons_lt (x y:Int) (l m:List Int):cmpL (x :: l) (y :: m) < 0 ↔ x < y ∨ (x = y ∧ cmpL l m < 0):=by
 show (if x = y then cmpL l m else cmpI x y) < 0 ↔ _
 split
 · rename_i h; simp [h]
 · rename_i h; rw [cmpI_lt]; simp [h]
theorem cmpL_tri:∀ a b:List Int,cmpL a b < 0 ∨ a = b ∨ cmpL b a < 0
 | [],[]=>.inr (.inl rfl)
 | [],_ :: _=>.inl (by exact (by decide:(-1:Int) < 0))
 | _ :: _,[]=>.inr (.inr (by exact (by decide:(-1:Int) < 0)))
 | x :: l,y :: m=>by
   rw [cmpL_cons_lt,cmpL_cons_lt]
   rcases Int.lt_trichotomy x y with h | h | h
   · exact .inl (.inl h)
   · subst h
     rcases cmpL_tri l m with h | h | h
     · exact .inl (.inr ⟨rfl,h⟩)
     · subst h; exact .inr (.inl rfl)
     · exact .inr (.inr (.inr ⟨rfl,h⟩))
   · exact .inr (.inr (.inl h))
theorem cmpL_trans:∀ a b c:List Int,cmpL a b < 0 → cmpL b c < 0 → cmpL a c < 0
 | [],[],_,h,_=>by simp [cmpL] at h
 | [],_ :: _,[],_,h=>by simp [cmpL] at h
 | [],_ :: _,_ :: _,_,_=>by simp [cmpL]
 | _ :: _,[],_,h,_=>by simp [cmpL] at h
 | _ :: _,_ :: _,[],_,h=>by simp [cmpL] at h
 | x :: l,y :: m,z :: n,h1,h2=>by
   rw [cmpL_cons_lt] at *
   rcases h1 with h1 | ⟨h1,h1'⟩ <;> rcases h2 with h2 | ⟨h2,h2'⟩
   · exact .inl (by omega)
   · exact .inl (by omega)
   · exact .inl (by omega)
   · exact .inr ⟨by omega,cmpL_trans l m n h1' h2'⟩
theorem cmpL_irrefl (a:List Int):¬ cmpL a a < 0:=by
 induction a with
 | nil=>decide
 | cons x l ih=>rw [cmpL_cons_lt]; rintro (h | ⟨_,h⟩) <;> omega
theorem setCmp_lt (a b:List Int):setCmp a b < 0 ↔ a.length < b.length ∨ (a.length = b.length ∧ cmpL a b < 0):=by
 unfold setCmp
 split
 · rename_i h; simp [h]
 · rename_i h; omega
theorem setCmp_irrefl (a:List Int):¬ setCmp a a < 0:=by rw [setCmp_lt]; have:=cmpL_irrefl a; omega
theorem setCmp_trans {a b c:List Int} (h1:setCmp a b < 0) (h2:setCmp b c < 0):setCmp a c < 0:=by
 rw [setCmp_lt] at *
 rcases h1 with h1 | ⟨h1,h1'⟩ <;> rcases h2 with h2 | ⟨h2,h2'⟩
 · exact .inl (by omega)
 · exact .inl (by omega)
 · exact .inl (by omega)
 · exact .inr ⟨by omega,cmpL_trans _ _ _ h1' h2'⟩
theorem setCmp_tri (a b:List Int):setCmp a b < 0 ∨ a = b ∨ setCmp b a < 0:=by
 rw [setCmp_lt,setCmp_lt]
 rcases Nat.lt_trichotomy a.length b.length with h | h | h
 · exact .inl (.inl h)
 · rcases cmpL_tri a b with h' | h' | h'
   · exact .inl (.inr ⟨h,h'⟩)
   · exact .inr (.inl h')
   · exact .inr (.inr (.inr ⟨h.symm,h'⟩))
 · exact .inr (.inr (.inl h))
theorem setCmp_swo (f:Nat → List Int):SWO (ltOf fun x y:Nat=>setCmp (f x) (f y)) where
 irrefl x:=by simpa [ltOf] using setCmp_irrefl (f x)
 trans x y z h1 h2:=by simp only [ltOf,decide_eq_true_eq] at *; exact setCmp_trans h1 h2
 ntrans x y z h1 h2:=by
  simp only [ltOf,decide_eq_false_iff_not] at *
  intro h
  rcases setCmp_tri (f x) (f y) with h' | h' | h'
  · exact h1 h'
  · rw [h'] at h; exact h2 h
  · exact h2 (setCmp_trans h' h)
def Sets (w:World) (vs:List Value) (ll:List (List Int)):Prop:=vs.length = ll.length ∧ ∀ i,i < ll.length → Own1 w 0 3 (.int .i64) (vs.getD i undef) (ll.getD i []) ∧ (ll.getD i []).length ≤ 16
theorem own1_at {w W:World} {v:Value} {l:List Int} (h:Own1 w 0 3 (.int .i64) v l) (hb:∀ b,v.ownBlock = some b → b < w.heap.size → W.heap[b]? = w.heap[b]?):Own1 W 0 3 (.int .i64) v l:=by
 obtain ⟨h1,h2⟩:=h
 refine ⟨h1,?_⟩
 rcases h2 with h2 | ⟨g,cap,cur,hv,hbg,hg,r⟩
 · exact .inl h2
 · exact .inr ⟨g,cap,cur,hv,hbg,(hb g (by rw [hv]; rfl) (Array.getElem?_eq_some_iff.1 hg).1).trans hg,r⟩
theorem own1_off {w:World} {v:Value} {l:List Int} {g:Nat} {cur:Array Value} {fr:Nat × Nat} (h:Own1 w 0 3 (.int .i64) v l) (hg:w.heap[g]? = some (.cells cur 172 fr)):v.ownBlock ≠ some g:=by
 intro e
 obtain ⟨h1,h2⟩:=h
 rcases h2 with ⟨rfl,_⟩ | ⟨g',cap,cur',rfl,hbg,hg',r⟩
 · cases e
 · obtain rfl:g' = g:=by simpa [Value.ownBlock] using e
   rw [hg] at hg'
   injection hg' with h
   injection h with _ h
   exact absurd h (by decide)
theorem Sets.at {w W:World} {vs:List Value} {ll:List (List Int)} (h:Sets w vs ll) (hb:∀ v l,Own1 w 0 3 (.int .i64) v l → ∀ b,v.ownBlock = some b → b < w.heap.size → W.heap[b]? = w.heap[b]?):Sets W vs ll :=
 ⟨h.1,fun i hi=>⟨own1_at (h.2 i hi).1 (hb _ _ (h.2 i hi).1),(h.2 i hi).2⟩⟩
theorem Sets.ext {w W:World} {vs:List Value} {ll:List (List Int)} (h:Sets w vs ll) (hx:Ext w W):Sets W vs ll:=h.at fun _ _ _ b _ hb=>Below.block hx b hb
theorem Sets.reads {w:World} {vs:List Value} {ll:List (List Int)} (h:Sets w vs ll):Reads w vs ll:=⟨h.1,fun i hi=>(h.2 i hi).1.ints (by have:=(h.2 i hi).2; omega)⟩
theorem Sets.nil (w:World):Sets w [] []:=⟨rfl,fun i hi=>by simp at hi⟩
theorem Sets.snoc {w:World} {vs:List Value} {ll:List (List Int)} {v:Value} {l:List Int} (h:Sets w vs ll) (hv:Own1 w 0 3 (.int .i64) v l) (hl:l.length ≤ 16):Sets w (vs ++ [v]) (ll ++ [l]):=by
 refine ⟨by simp [h.1],fun i hi=>?_⟩
 rw [List.length_append,List.length_singleton] at hi
 by_cases hlt:i < ll.length
 · have e1:(vs ++ [v]).getD i undef = vs.getD i undef:=by simp [List.getElem?_append_left (show i < vs.length by rw [h.1]; exact hlt)]
   have e2:(ll ++ [l]).getD i [] = ll.getD i []:=by simp [List.getElem?_append_left hlt]
   rw [e1,e2]; exact h.2 i hlt
 · have e:i = ll.length:=by omega
   have e1:(vs ++ [v]).getD i undef = v:=by rw [e,← h.1]; simp
   have e2:(ll ++ [l]).getD i [] = l:=by rw [e]; simp
   rw [e1,e2]; exact ⟨hv,hl⟩
theorem heap_sortWorld {α:Type} [Inhabited α] (enc:α → Value) (w:World) (blk off n:Nat) (d:Array α) (os:Array Obj) {k:Nat} (hk:k < w.heap.size) (hne:k ≠ blk):(sortWorld enc w blk off n d os).heap[k]? = w.heap[k]?:=by
 unfold sortWorld
 rw [heap_grow_old _ _ (by rw [size_putRow]; exact hk)]
 show (w.heap.modify blk _)[k]? = _
 rw [Array.getElem?_modify,if_neg (fun h=>hne h.symm)]
theorem size_sortWorld {α:Type} [Inhabited α] (enc:α → Value) (w:World) (blk off n:Nat) (d:Array α) (os:Array Obj):w.heap.size ≤ (sortWorld enc w blk off n d os).heap.size:=by
 unfold sortWorld
 rw [size_grow,size_putRow]; show w.heap.size ≤ w.heap.size + _; omega
theorem grown_sortWorld {α:Type} [Inhabited α] (enc:α → Value) (w:World) (blk off n:Nat) (d:Array α) (os:Array Obj):w.grownBy (sortWorld enc w blk off n d os) (some blk) :=
 ⟨rfl,rfl,rfl,size_sortWorld _ _ _ _ _ _ _,fun k hk hne=>heap_sortWorld _ _ _ _ _ _ _ hk (fun e=>hne (by rw [e]))⟩
theorem sortWorld_holds {α:Type} [Inhabited α] (enc:α → Value) (w:World) (blk off n:Nat) (d0 d:Array α) (os:Array Obj) (h0:Holds enc w blk off d0) (hs:d.size = d0.size) (hb:blk < w.heap.size):Holds enc (sortWorld enc w blk off n d os) blk off d:=by
 unfold sortWorld
 exact holds_grow _ _ _ _ _ _ (by rw [size_putRow]; exact hb) (holds_putRow enc (Sort.ahead w n) blk off d0 d (holds_ahead _ _ _ _ _ _ h0) hs)
def Sorted (ll:List (List Int)):Prop:=ll.Pairwise fun a b=>¬ setCmp b a < 0
set_option maxHeartbeats 1000000 in
theorem sort_any (w:World) (g cap base:Nat) (vs:List Value) (ll:List (List Int)) (hown:Own1 w base 172 idV (.slice (some ⟨g,0,none⟩) vs.length cap) vs) (hs:Sets w vs ll) (hle:ll.length ≤ 4096) :
    Calls Tryz.prog 123 #[.slice (some ⟨g,0,none⟩) ll.length cap,.func (.func 124) #[] #[]] w fun e w'=>e = .returned (.tuple #[]) ∧ ∃ ll',ll'.Perm ll ∧ Sorted ll' ∧ IsIntss w' (.slice (some ⟨g,0,none⟩) ll.length cap) ll' ∧ w.grownBy w' (some g):=by
 obtain ⟨cur,hcur,hgl,hcap,htake⟩:∃ cur,w.heap[g]? = some (.cells cur 172 (0,0)) ∧ g < w.heap.size ∧ vs.length ≤ cap ∧ cur.toList.take vs.length = vs:=by
  obtain ⟨h1,h2⟩:=hown
  rcases h2 with ⟨h2,_⟩ | ⟨g',cap',cur,hv,hb,hg,hc,hm,hz,ht⟩
  · cases h2
  · injection hv with e1 e2 e3
    injection e1 with e1
    injection e1 with e1
    subst e1; subst e3
    refine ⟨cur,hg,(Array.getElem?_eq_some_iff.1 hg).1,hc,?_⟩
    have hid:vs.map idV = vs:=by show vs.map id = vs; exact List.map_id vs
    rw [hid,Nat.mul_one] at ht
    exact ht
 have hlen:=hs.1
 obtain ⟨K,hK⟩:∃ K,ll.length = K:=⟨_,rfl⟩
 rw [hK] at hlen hle ⊢
 let z:Value:=.slice none 0 0
 let enc:Nat → Value:=fun x=>vs.getD x z
 let cont:Nat → List Int:=fun x=>ll.getD x []
 have hint:∀ x W,(∀ k,k < w.heap.size → k ≠ g → W.heap[k]? = w.heap[k]?) → IsInts W (enc x) (cont x):=by
  intro x W hW
  by_cases hx:x < K
  · have h1:=(hs.2 x (by omega)).1
    have h2:=own1_at (W:=W) h1 (fun b hb hbl=>hW b hbl (fun e=>own1_off h1 hcur (by rw [← e]; exact hb)))
    have h3:=h2.ints (by have:=(hs.2 x (by omega)).2; omega)
    have e1:vs.getD x undef = enc x:=by simp [enc,z,show x < vs.length by omega]
    rw [e1] at h3
    exact h3
  · have e1:enc x = .slice none 0 0:=by simp [enc,z,show ¬ x < vs.length by omega,List.getD_eq_getElem?_getD,List.getElem?_eq_none (show vs.length ≤ x by omega)]
    have e2:cont x = []:=by simp [cont,List.getD_eq_getElem?_getD,List.getElem?_eq_none (show ll.length ≤ x by omega)]
    rw [e1,e2]
    exact Rows.nil 1 _ W
 have hone:OneCell enc:=by
  intro x
  obtain ⟨A,c,he,_⟩:=(hint x w (fun _ _ _=>rfl)).opened
  rw [he]; rfl
 have hH:Holds enc w g 0 (Array.range K):=by
  intro j hj
  rw [Array.size_range] at hj
  have e1:(Array.range K)[j]! = j:=by rw [getElem!_pos _ j (by simpa using hj)]; simp
  rw [e1]
  refine ⟨?_,by simp [World.frozen?,hcur]⟩
  have h1:=congrArg (fun l=>l[j]?) htake
  rw [Nat.zero_add]
  simp only [List.getElem?_take,show j < vs.length by omega,if_true] at h1
  show (match w.heap[g]? with | some (.cells c _ _)=>_ | _=>_) = _
  rw [hcur]
  simp only [Option.isSome_none,Bool.false_eq_true,if_false]
  rw [← Array.getElem?_toList,h1]
  simp [enc,show j < vs.length by omega]
 have hcmp:CmpLays1 Tryz.prog 124 #[] enc (fun x y=>setCmp (cont x) (cont y)) g 0 (Array.range K).size w:=by
  refine CmpReads.lays fun m os dk hdk x y=>?_
  have h:=compare_any (sortWorld enc w g 0 m dk os) (enc x) (enc y) (cont x) (cont y) (hint x _ (fun k hk hne=>heap_sortWorld _ _ _ _ _ _ _ hk hne)) (hint y _ (fun k hk hne=>heap_sortWorld _ _ _ _ _ _ _ hk hne))
  exact h.mono fun e w' ⟨he,hw⟩=>⟨he,0,hw.symm⟩
 have eg:∀ args w,(callFunc 124 args).run Tryz.prog w = .ok (.enter 124 args) w:=enters_of Tryz.func124 (by kernel_rfl) rfl
 have hcon:=Any.slices_SortFunc Tryz.sortSet enc hone (fun x y=>setCmp (cont x) (cont y)) (setCmp_swo cont) 124 #[] g 0 cap (Array.range K) w eg hcmp hH hgl (by rw [Array.size_range]; omega)
 rw [Array.size_range] at hcon
 change Calls Tryz.prog 123 _ _ _ at hcon
 refine hcon.mono fun e w' ⟨he,d',n,os,hp,hso,hw⟩=>⟨he,?_⟩
 subst hw
 obtain ⟨hp1,_,hp3⟩:=hp
 rw [Array.size_range] at hp1
 have hperm:d'.toList.Perm (List.range K):=by
  have e1:d'.extract 0 K = d':=by rw [← hp1]; simp
  have e2:(Array.range K).extract 0 K = Array.range K:=by
   apply Array.toList_inj.1
   rw [Array.toList_extract,List.extract_eq_take_drop,List.drop_zero]
   exact List.take_of_length_le (by simp)
  rw [e1,e2] at hp3
  simpa using hp3
 have hll:(List.range K).map cont = ll:=by
  apply List.ext_getElem
  · simp [hK]
  · intro i h1 h2; simp [cont,h2]
 refine ⟨d'.toList.map cont,by rw [← hll]; exact hperm.map cont,?_,?_,grown_sortWorld _ _ _ _ _ _ _⟩
 · unfold Sorted
   rw [List.pairwise_map,List.pairwise_iff_getElem]
   intro i j hi hj hij
   have hi':i < d'.size:=by simpa using hi
   have hj':j < d'.size:=by simpa using hj
   have h:=hso i j (Nat.zero_le _) hij (by omega)
   rw [getElem!_pos d' i hi',getElem!_pos d' j hj'] at h
   simpa [ltOf] using h
 · have hho:=sortWorld_holds enc w g 0 n (Array.range K) d' os hH (by simp [hp1]) hgl
   have hl2:(d'.toList.map cont).length = K:=by simp [hp1]
   refine ⟨fun k=>enc (d'[k]!),⟨_,cap,by rw [hl2],by rw [hl2]; omega,by rw [hl2]; omega,fun j hj=>?_⟩,fun j hj=>?_⟩
   · rw [hl2,Nat.mul_one] at hj
     exact ⟨g,0,rfl,(hho j (by omega)).1⟩
   · rw [hl2] at hj
     have hj':j < d'.size:=by omega
     simp only [Nat.mul_one,Nat.add_zero]
     rw [getElem!_pos d' j hj']
     have:=hint d'[j] (sortWorld enc w g 0 n d' os) (fun k hk hne=>heap_sortWorld _ _ _ _ _ _ _ hk hne)
     simpa using this
end Go.Proofs
