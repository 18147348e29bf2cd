/- Contracts: Fails, the other events, sets without an element, cut sets and path sets, minimal ones. Contracts: which nodes fail; cut sets and path sets as bits. -/
import Derived.Test.YthfanledageoeaaGreatDoorFs08
import Derived.Test.YthfanledageoeaaGreatDoorFs07
set_option linter.unusedVariables false
set_option linter.unusedSimpArgs false
set_option linter.constructorNameAsVariable false
namespace Go.Proofs
open Go.RowKit Go.Tw Go.Flow
theorem states_len (t : Tree) (ev : Nat → Bool) : (t.states ev).length = t.nodes := gatesB_len t ev _
set_option maxHeartbeats 400000 in
theorem Fails_any (w : World) (v u : Value) (t : Tree) (l : List Int) (hfit : Fit t) (hn : 1 ≤ t.nodes) (ht : IsTree w v t) (hl : IsInts w u l) :
    Calls Tryz.prog 52 #[v, u] w fun e w' => e = .returned (.bool (t.fails (evL l))) ∧ Ext w w' := by
 obtain ⟨a, b, c, rfl, h3⟩ := ht
 have hw := Ext.box w (.cells #[a, b, c] 26)
 have HT := Lib.hid (h3.ext hw)
 have HL := Lib.hid (hl.ext hw)
 have HF := Lib.hid hfit
 have hlen := states_len t (evL l)
 have hnn : t.nodes ≤ 3000 := by unfold Tree.nodes; have := hfit.nb; have := hfit.ng; omega
 clear h3 hl hfit
 go_enter Tryz.func52, Tryz.ntmps52
 go_wp2_with fail
 refine (States_any _ _ _ t l HF.out ⟨_, _, _, rfl, HT.out⟩ HL.out).mono ?_
 rintro e w1 ⟨x, rfl, hb, hx⟩
 obtain ⟨A, cap, rfl, _, hcap, hc⟩ := hb.opened
 obtain ⟨b', off, rfl, hb', hcell⟩ := hc ((t.states (evL l)).length - 1) (by omega)
 obtain ⟨m, hm⟩ : ∃ m, (t.states (evL l)).length = m + 1 := ⟨(t.states (evL l)).length - 1, by omega⟩
 clear hc hb
 rw [hm] at hcell hcap ⊢
 rw [Nat.add_sub_cancel] at hcell
 have HM := Lib.hid hm
 have hm' : m ≤ 3000 := by omega
 have HLEN := Lib.hid hlen
 clear hm hlen
 go_wp2
 go_ret
 exact ⟨ret_bool (by unfold Tree.fails; rw [show t.nodes - 1 = m from by have := HLEN.out; have := HM.out; omega]), hw.trans hx⟩
def othersTo (n : Nat) (l : List Int) : List Int := ((List.range n).map Int.ofNat).filter fun x => !has l x
theorem othersTo_succ (n : Nat) (l : List Int) : othersTo (n + 1) l = othersTo n l ++ if has l (n : Int) then [] else [(n : Int)] := by
 unfold othersTo
 rw [List.range_succ, List.map_append, List.filter_append]
 cases h : has l (n : Int) <;> simp [h]
theorem othersTo_len (n : Nat) (l : List Int) : (othersTo n l).length ≤ n := by
 unfold othersTo; exact Nat.le_trans (List.length_filter_le _ _) (by simp)
set_option maxRecDepth 100000 in
set_option maxHeartbeats 400000 in
theorem Others_any (w : World) (v u : Value) (t : Tree) (l : List Int) (hn : t.size ≤ 100000) (ht : IsTree w v t) (hl : IsInts w u l) :
    Calls Tryz.prog 88 #[v, u] w fun e w' => ∃ x, e = .returned x ∧ IsInts w' x (others t.size l) ∧ Ext w w' := by
 obtain ⟨i0, hi, hz0, hz1, hz2⟩ := info_parts Tryz.info3
 obtain ⟨a, b, c, rfl, h3⟩ := ht
 have hw := Ext.box w (.cells #[a, b, c] 26)
 have c0 := cell_new w #[a, b, c] 26 0
 have c1 := cell_new w #[a, b, c] 26 1
 have c2 := cell_new w #[a, b, c] 26 2
 have HT := Lib.hid (h3.ext hw)
 have HL := Lib.hid (hl.ext hw)
 clear h3 hl
 go_enter Tryz.func88, Tryz.ntmps88
 go_wp2
 obtain ⟨W, hW⟩ : ∃ W, w.alloc (.cells #[a, b, c] 26) = W := ⟨_, rfl⟩
 have hsz : W.heap.size = w.heap.size + 1 := by rw [← hW]; simp
 rw [hW] at c0 c1 c2 hw HT HL ⊢
 simp only [List.getElem?_toArray, List.getElem?_cons_zero, List.getElem?_cons_succ] at c0 c1 c2
 clear hW
 go_loopw [5, 6] (fun o i wr => ∃ (k : Nat), k ≤ t.size ∧ i = .int .i64 k ∧ Own1 wr W.heap.size 3 (.int .i64) o (othersTo k l) ∧ Ext W wr) (fun _ i _ => t.size - (intOf i).toNat)
 case atStart => exact ⟨0, Nat.zero_le _, rfl, Own1.nil _ _ _ _, Ext.refl _⟩
 case round =>
  obtain ⟨k, hk, rfl, hown, hx⟩ := hrel
  have d0 := hx.cell c0
  have d1 := hx.cell c1
  have d2 := hx.cell c2
  clear c0 c1 c2
  have hle := othersTo_len k l
  go_wp2_with fail
  refine (Size_any _ _ t ⟨_, _, _, rfl, HT.out.ext hx⟩).mono ?_
  rintro e w1 ⟨rfl, hx1⟩
  replace hown := hown.below hx1
  have hx' := hx.trans hx1
  clear hx d0 d1 d2 hx1
  by_cases hlt : k < t.size
  · cases hh : has l (k : Int) with
    | true =>
      go_wp2_with (go_at_call 97; refine (HasInt_any _ _ l _ (HL.out.ext hx')).mono ?_; rintro e w' ⟨rfl, rfl⟩)
      go_roundw
      case rel => exact ⟨k + 1, by omega, by go_num, by rw [othersTo_succ, hh]; simpa using hown, hx'⟩
      case measure => simp [intOf]; omega
    | false =>
      go_wp2_with (first | (go_at_call 97; refine (HasInt_any _ _ l _ (HL.out.ext hx')).mono ?_; rintro e w' ⟨rfl, rfl⟩) | (at_builtin; refine wpList_append_own _ rfl _ _ 39 rfl (W.heap.size) 3 i0 (.int .i64 0) 1 8 Tryz.underlying39 hi hz0 hz1 hz2 rfl (by decide) _ _ _ rfl (World.ownsRow.alloc hown _) ⟨w1.heap.size, 0, none⟩ 1 1 [.int .i64 k] rfl rfl ?_ ?_ ?_ ?_ ?_ ?_; exact one_new _ _ _; (focus (simp [Value.oneCell'])); (focus (unfold maxLen; omega)); (focus omega); (focus (have := hx'.size; simp at this ⊢; omega)); intro v' w1 hown' hgrow _))
      have hx2 := ext_grown hx' hown (Nat.le_refl _) hgrow
      go_roundw
      case rel => exact ⟨k + 1, by omega, by go_num, by rw [othersTo_succ, hh]; exact Own1.snoc hown', hx2⟩
      case measure => simp [intOf]; omega
  · go_wp2
    go_ret
    exact ⟨_, rfl, by rw [show others t.size l = othersTo k l from by rw [show k = t.size from by omega]; rfl]; exact hown.ints (by omega), hw.trans hx'⟩
end Go.Proofs
namespace Go.Proofs
open Go.RowKit Go.Tw Go.Flow
theorem bit_and1 {s : Nat} (hs : s < 2 ^ 62) (i : Nat) : (bits .and .i64 ((s : Int) / 2 ^ i) 1 == 1) = s.testBit i := by
 have h1 : (s : Int) / 2 ^ i = ((s / 2 ^ i : Nat) : Int) := by simp
 have h2 : bits .and .i64 ((s / 2 ^ i : Nat) : Int) 1 = ((s / 2 ^ i &&& 1 : Nat) : Int) := and64 (a := s / 2 ^ i) (b := 1) (Nat.lt_of_le_of_lt (Nat.div_le_self _ _) hs) (by decide)
 rw [h1, h2, Nat.and_one_is_mod, bitAt]
 have h3 : s / 2 ^ i % 2 = 0 ∨ s / 2 ^ i % 2 = 1 := by omega
 rcases h3 with h | h <;> rw [h] <;> rfl
set_option maxRecDepth 100000 in
set_option maxHeartbeats 1000000 in
theorem failing_any (w : World) (fv gv : Value) (t : Tree) (c : List Int) (s : Nat) (hv : Valid t) (hs : s < 2 ^ t.size) (hn : IsNo w fv gv t) :
    Calls Tryz.prog 108 #[noV t c fv gv, .int .i64 s] w fun e w' => e = .returned (.int .i64 (packB (t.states (evN s)) : Nat)) ∧ Ext w w' := by
 obtain ⟨hf, hg⟩ := hn
 obtain ⟨A, cap, rfl, hl1, hcap, hc⟩ := hf.opened
 obtain ⟨A2, cap2, rfl, hl2, hcap2, hc2⟩ := hg.opened
 rw [masks_len] at hl1 hcap hc
 have hsz := hv.size
 have hng := hv.ng'
 have hnb := hv.nb
 have HV := Lib.hid hv
 have HC := Lib.hid hc
 have HC2 := Lib.hid hc2
 have hsb : t.basics.length ≤ 12 := by unfold Tree.size at hsz; omega
 have hs12 : s < 2 ^ 62 := Nat.lt_of_lt_of_le hs (Nat.pow_le_pow_right (by omega) (by omega))
 have HS := Lib.hid hs12
 clear hf hg hc hc2 hv hs hs12
 unfold noV
 rw [masks_len]
 go_enter Tryz.func108, Tryz.ntmps108
 go_wp2
 obtain ⟨W, hW⟩ : ∃ W, w.alloc (.cells #[.int .i64 t.size, .slice A t.size cap, .int .i64 (ix c 0), .int .i64 (ix c 1), .int .i64 (ix c 2), .int .i64 (ix c 3), .int .i64 (ix c 4), .int .i64 (ix c 5), .int .i64 (ix c 6), .int .i64 (ix c 7), .int .i64 (ix c 8), .int .i64 (ix c 9), .int .i64 (ix c 10), .int .i64 (ix c 11), .int .i64 t.basics.length, .slice A2 t.gates.length cap2] 110) = W := ⟨_, rfl⟩
 have hxW : Ext w W := by rw [← hW]; exact Ext.box _ _
 have n14 : W.cell? ⟨w.heap.size, 14, none⟩ = some (.int .i64 t.basics.length) := by rw [← hW]; exact cell_new _ _ _ 14
 have n15 : W.cell? ⟨w.heap.size, 15, none⟩ = some (.slice A2 t.gates.length cap2) := by rw [← hW]; exact cell_new _ _ _ 15
 rw [hW]
 clear hW
 go_loop [5, 14] (fun o i => ∃ (k : Nat), k ≤ t.size ∧ i = .int .i64 k ∧ o = .int .i64 (t.orTo s k : Nat)) (fun _ i => t.size - (intOf i).toNat)
 case atStart => exact ⟨0, Nat.zero_le _, rfl, rfl⟩
 case round =>
  obtain ⟨k, hk, rfl, rfl⟩ := hrel
  by_cases hlt : k < t.size
  · obtain ⟨b, off, rfl, hcell⟩ := HC.out k hlt
    rw [masks_ix hlt] at hcell
    replace hcell := hxW.cell hcell
    have hm := HV.out.maskAt_lt hlt
    have ho := HV.out.orTo_lt s k hk
    have hp12 : (2 : Nat) ^ t.basics.length ≤ 2 ^ 12 := Nat.pow_le_pow_right (by omega) hsb
    have hor := or64 (a := t.orTo s k) (b := t.maskAt k) (by omega) (by omega)
    have HO : Hid (t.orTo s (k + 1) = if s.testBit k then t.orTo s k ||| t.maskAt k else t.orTo s k) := by exact (rfl : t.orTo s (k + 1) = _)
    have hb1 := bit_and1 HS.out k
    obtain ⟨o, he⟩ : ∃ o, t.orTo s k = o := ⟨_, rfl⟩
    obtain ⟨m, hme⟩ : ∃ m, t.maskAt k = m := ⟨_, rfl⟩
    rw [he, hme] at hor HO
    rw [hme] at hcell
    rw [he]
    clear he hme hm ho hp12
    cases hb : s.testBit k with
    | true =>
      rw [hb] at HO hb1
      clear hb
      go_wp2
      go_round
      case rel => exact ⟨k + 1, by omega, by go_num, by rw [HO.out]; rfl⟩
      case measure => simp [intOf]; omega
    | false =>
      rw [hb] at HO hb1
      clear hb
      go_wp2
      go_round
      case rel => exact ⟨k + 1, by omega, by go_num, by rw [HO.out]; rfl⟩
      case measure => simp [intOf]; omega
  · have e0 : t.orTo s k = packB (t.gatesB (evN s) 0) := by rw [show k = t.size from by omega, HV.out.orTo_all]; rfl
    rw [e0]
    clear e0
    go_wp2
    go_loopw [5, 31] (fun o i wr => ∃ (g : Nat), g ≤ t.gates.length ∧ i = .int .i64 g ∧ o = .int .i64 (packB (t.gatesB (evN s) g) : Nat) ∧ Ext W wr) (fun _ i _ => t.gates.length - (intOf i).toNat)
    case atStart => exact ⟨0, Nat.zero_le _, rfl, rfl, Ext.refl _⟩
    case round =>
     obtain ⟨g, hg, rfl, rfl, hx⟩ := hrel
     replace n14 := hx.cell n14
     replace n15 := hx.cell n15
     by_cases hlg : g < t.gates.length
     · obtain ⟨b, off, rfl, hbl, g0, g1⟩ := HC2.out g hlg
       replace g0 := hx.cell (hxW.cell g0)
       replace g1 := hx.cell (hxW.cell g1)
       have hm := HV.out.gmask_lt hlg
       have ho := HV.out.gates_bd (evN s) hg
       have HST := Lib.hid (HV.out.step (evN s) hlg)
       have hand := and64 (a := packB (t.gatesB (evN s) g)) (b := (t.gt g).1) (by omega) (by omega)
       have hor := or_step (a := packB (t.gatesB (evN s) g)) (n := t.basics.length + g) (by omega) (by omega)
       obtain ⟨o, he⟩ : ∃ o, packB (t.gatesB (evN s) g) = o := ⟨_, rfl⟩
       obtain ⟨m, hme⟩ : ∃ m, (t.gt g).1 = m := ⟨_, rfl⟩
       obtain ⟨q, hq⟩ : ∃ q, (t.gt g).2 = q := ⟨_, rfl⟩
       rw [he, hme, hq] at HST
       rw [he, hme] at hand
       rw [he] at ho hor
       rw [hme] at g0 hm
       rw [hq] at g1
       rw [he]
       clear he hme hq hbl
       have hlt64 : o &&& m < 2 ^ 64 := Nat.lt_of_le_of_lt Nat.and_le_right (by omega)
       obtain ⟨r, hr⟩ : ∃ r, o &&& m = r := ⟨_, rfl⟩
       rw [hr] at HST hand hlt64
       clear hr
       obtain ⟨p, hp⟩ : ∃ p, popN r 64 = p := ⟨_, rfl⟩
       rw [hp] at HST
       have HON : Hid (∀ w', Calls Tryz.prog 137 #[.int .u64 r] w' fun e w'' => e = .returned (.int .i64 (p : Nat)) ∧ w' = w'') := by
        exact (by intro w'; rw [← hp]; exact Ones_any w' r hlt64 : ∀ w', Calls Tryz.prog 137 #[.int .u64 r] w' fun e w'' => e = .returned (.int .i64 (p : Nat)) ∧ w' = w'')
       have hwr : IntKind.u64.wrap (r : Int) = (r : Int) := wrapUN (by omega)
       clear hp hlt64 hm ho
       go_light
       go_wp2
       obtain ⟨W2, hW2⟩ : ∃ W2, wr.alloc (.cells #[.int .i64 m, .int .i64 q] 166) = W2 := ⟨_, rfl⟩
       have hx2 : Ext wr W2 := by rw [← hW2]; exact Ext.box _ _
       have k0 : W2.cell? ⟨wr.heap.size, 0, none⟩ = some (.int .i64 m) := by rw [← hW2]; exact cell_new _ _ _ 0
       have k1 : W2.cell? ⟨wr.heap.size, 1, none⟩ = some (.int .i64 q) := by rw [← hW2]; exact cell_new _ _ _ 1
       rw [hW2]
       replace n14 := hx2.cell n14
       have hxr := hx.trans hx2
       clear hW2
       refine Flow.region0 [.plain, .plain, .world, .plain, .world, .world, .plain, .world, .plain] [0, 1, 2, 3, 4, 5, 6, 7, 8] [[], [], [1], [0, 1, 2], [0, 1, 2, 3], [0, 1, 2, 3, 4], [], [6], [0, 1, 2, 3, 4, 5, 6, 7]]
        [.is 0 (fun v => .int .i64 (o : Nat)), .is 1 (fun v => .pointer (some ⟨wr.heap.size, 0, none⟩)), .is 2 (fun v => .int .i64 (m : Nat)), .is 3 (fun v => .int .i64 (r : Nat)), .is 4 (fun v => .int .u64 (r : Nat)), .is 5 (fun v => .int .i64 (p : Nat)), .is 6 (fun v => .pointer (some ⟨wr.heap.size, 1, none⟩)), .is 7 (fun v => .int .i64 q), .is 8 (fun v => .bool (decide (q ≤ (p : Int))))]
        (by kernel_rfl) rfl (by kernel_rfl) ⟨?g0, ?g1, ?g2, ?g3, ?g4, ?g5, ?g6, ?g7, ?g8, trivial⟩ ?post
       case g0 =>
        intro v w1 hx
        have k0 := hx.cell k0
        have k1 := hx.cell k1
        refine ⟨_, fun w => ?_, rfl⟩
        go_simp
       case g1 =>
        intro v w1 hx
        have k0 := hx.cell k0
        have k1 := hx.cell k1
        refine ⟨_, fun w => ?_, rfl⟩
        go_simp
       case g2 =>
        intro v w1 hx (q1 : v 1 = .pointer (some ⟨wr.heap.size, 0, none⟩))
        have k0 := hx.cell k0
        have k1 := hx.cell k1
        intro K hK
        go_simp
        exact hK _ _ (Ext.refl _) rfl
       case g3 =>
        intro v w1 hx (q0 : v 0 = .int .i64 (o : Nat)) (q1 : v 1 = .pointer (some ⟨wr.heap.size, 0, none⟩)) (q2 : v 2 = .int .i64 (m : Nat))
        have k0 := hx.cell k0
        have k1 := hx.cell k1
        refine ⟨_, fun w => ?_, rfl⟩
        go_simp
       case g4 =>
        intro v w1 hx (q0 : v 0 = .int .i64 (o : Nat)) (q1 : v 1 = .pointer (some ⟨wr.heap.size, 0, none⟩)) (q2 : v 2 = .int .i64 (m : Nat)) (q3 : v 3 = .int .i64 (r : Nat))
        have k0 := hx.cell k0
        have k1 := hx.cell k1
        intro K hK
        go_simp
        exact hK _ _ (Ext.refl _) rfl
       case g5 =>
        intro v w1 hx (q0 : v 0 = .int .i64 (o : Nat)) (q1 : v 1 = .pointer (some ⟨wr.heap.size, 0, none⟩)) (q2 : v 2 = .int .i64 (m : Nat)) (q3 : v 3 = .int .i64 (r : Nat)) (q4 : v 4 = .int .u64 (r : Nat))
        have k0 := hx.cell k0
        have k1 := hx.cell k1
        intro K hK
        go_simp
        refine gives_call (HON.out _) ?_
        rintro e w2 ⟨rfl, rfl⟩
        exact ⟨_, rfl, hK _ _ (Ext.refl _) rfl⟩
       case g6 =>
        intro v w1 hx
        have k0 := hx.cell k0
        have k1 := hx.cell k1
        refine ⟨_, fun w => ?_, rfl⟩
        go_simp
       case g7 =>
        intro v w1 hx (q6 : v 6 = .pointer (some ⟨wr.heap.size, 1, none⟩))
        have k0 := hx.cell k0
        have k1 := hx.cell k1
        intro K hK
        go_simp
        exact hK _ _ (Ext.refl _) rfl
       case g8 =>
        intro v w1 hx (q0 : v 0 = .int .i64 (o : Nat)) (q1 : v 1 = .pointer (some ⟨wr.heap.size, 0, none⟩)) (q2 : v 2 = .int .i64 (m : Nat)) (q3 : v 3 = .int .i64 (r : Nat)) (q4 : v 4 = .int .u64 (r : Nat)) (q5 : v 5 = .int .i64 (p : Nat)) (q6 : v 6 = .pointer (some ⟨wr.heap.size, 1, none⟩)) (q7 : v 7 = .int .i64 q)
        have k0 := hx.cell k0
        have k1 := hx.cell k1
        refine ⟨_, fun w => ?_, rfl⟩
        go_simp
       case post =>
        intro v w1 hx (q0 : v 0 = .int .i64 (o : Nat)) (q1 : v 1 = .pointer (some ⟨wr.heap.size, 0, none⟩)) (q2 : v 2 = .int .i64 (m : Nat)) (q3 : v 3 = .int .i64 (r : Nat)) (q4 : v 4 = .int .u64 (r : Nat)) (q5 : v 5 = .int .i64 (p : Nat)) (q6 : v 6 = .pointer (some ⟨wr.heap.size, 1, none⟩)) (q7 : v 7 = .int .i64 q) (q8 : v 8 = .bool (decide (q ≤ (p : Int))))
        simp only [Flow.All, Flow.acts, Act.put]
        go_simp
        replace n14 := ((Ext.refl W2).drew.trans hx).cell n14
        by_cases hd : q ≤ (p : Int)
        · rw [if_pos hd] at HST
          rw [decide_eq_true hd]
          clear hd
          go_wp2
          go_roundw
          case rel => exact ⟨g + 1, by omega, by go_num, by rw [HST.out], hxr.trans ((Ext.refl W2).drew.trans hx)⟩
          case measure => simp [intOf]; omega
        · rw [if_neg hd] at HST
          rw [decide_eq_false hd]
          clear hd
          go_wp2
          go_roundw
          case rel => exact ⟨g + 1, by omega, by go_num, by rw [HST.out], hxr.trans ((Ext.refl W2).drew.trans hx)⟩
          case measure => simp [intOf]; omega
     · go_wp2
       go_ret
       exact ⟨ret_int (by rw [show g = t.gates.length from by omega]; rfl), hxW.trans hx⟩
end Go.Proofs
