/- Contracts: Fails, the other events, sets without an element, cut sets and path sets, minimal ones. Contracts: which nodes fail; cut sets and path sets as bits. Contracts: cut sets and path sets as bits. -/
import Derived.Test.YthfanledageoeaaGreatDoorCb08
import Derived.Test.YthfanledageoeaaGreatDoorCb07
set_option linter.unusedVariables false
set_option linter.unusedSimpArgs false
set_option linter.constructorNameAsVariable false
namespace Go.Proofs
open Go.RowKit Go.Tw Go.Flow
theorem states_len (t : Tree) (ev : Nat → Bool) : (t.states ev).length = t.nodes := gatesB_len t ev _
set_option maxHeartbeats 400000 in
theorem Fails_any (w : World) (v u : Value) (t : Tree) (l : List Int) (hfit : Fit t) (hn : 1 ≤ t.nodes) (ht : IsTree w v t) (hl : IsInts w u l) :
    Calls Tryz.prog 52 #[v, u] w fun e w' => e = .returned (.bool (t.fails (evL l))) ∧ Ext w w' := by
 obtain ⟨a, b, c, rfl, h3⟩ := ht
 have hw := Ext.box w (.cells #[a, b, c] 26)
 have HT := Lib.hid (h3.ext hw)
 have HL := Lib.hid (hl.ext hw)
 have HF := Lib.hid hfit
 have hlen := states_len t (evL l)
 have hnn : t.nodes ≤ 3000 := by unfold Tree.nodes; have := hfit.nb; have := hfit.ng; omega
 clear h3 hl hfit
 go_enter Tryz.func52, Tryz.ntmps52
 go_wp2_with fail
 refine (States_any _ _ _ t l HF.out ⟨_, _, _, rfl, HT.out⟩ HL.out).mono ?_
 rintro e w1 ⟨x, rfl, hb, hx⟩
 obtain ⟨A, cap, rfl, _, hcap, hc⟩ := hb.opened
 obtain ⟨b', off, rfl, hb', hcell⟩ := hc ((t.states (evL l)).length - 1) (by omega)
 obtain ⟨m, hm⟩ : ∃ m, (t.states (evL l)).length = m + 1 := ⟨(t.states (evL l)).length - 1, by omega⟩
 clear hc hb
 rw [hm] at hcell hcap ⊢
 rw [Nat.add_sub_cancel] at hcell
 have HM := Lib.hid hm
 have hm' : m ≤ 3000 := by omega
 have HLEN := Lib.hid hlen
 clear hm hlen
 go_wp2
 go_ret
 exact ⟨ret_bool (by unfold Tree.fails; rw [show t.nodes - 1 = m from by have := HLEN.out; have := HM.out; omega]), hw.trans hx⟩
end Go.Proofs
namespace Go.Proofs
open Go.RowKit Go.Tw Go.Flow
theorem bit_and1 {s : Nat} (hs : s < 2 ^ 62) (i : Nat) : (bits .and .i64 ((s : Int) / 2 ^ i) 1 == 1) = s.testBit i := by
 have h1 : (s : Int) / 2 ^ i = ((s / 2 ^ i : Nat) : Int) := by simp
 have h2 : bits .and .i64 ((s / 2 ^ i : Nat) : Int) 1 = ((s / 2 ^ i &&& 1 : Nat) : Int) := and64 (a := s / 2 ^ i) (b := 1) (Nat.lt_of_le_of_lt (Nat.div_le_self _ _) hs) (by decide)
 rw [h1, h2, Nat.and_one_is_mod, bitAt]
 have h3 : s / 2 ^ i % 2 = 0 ∨ s / 2 ^ i % 2 = 1 := by omega
 rcases h3 with h | h <;> rw [h] <;> rfl
set_option maxRecDepth 100000 in
set_option maxHeartbeats 1000000 in
theorem failing_any (w : World) (fv gv : Value) (t : Tree) (c : List Int) (s : Nat) (hv : Valid t) (hs : s < 2 ^ t.size) (hn : IsNo w fv gv t) :
    Calls Tryz.prog 108 #[noV t c fv gv, .int .i64 s] w fun e w' => e = .returned (.int .i64 (packB (t.states (evN s)) : Nat)) ∧ Ext w w' := by
 obtain ⟨hf, hg⟩ := hn
 obtain ⟨A, cap, rfl, hl1, hcap, hc⟩ := hf.opened
 obtain ⟨A2, cap2, rfl, hl2, hcap2, hc2⟩ := hg.opened
 rw [masks_len] at hl1 hcap hc
 have hsz := hv.size
 have hng := hv.ng'
 have hnb := hv.nb
 have HV := Lib.hid hv
 have HC := Lib.hid hc
 have HC2 := Lib.hid hc2
 have hsb : t.basics.length ≤ 12 := by unfold Tree.size at hsz; omega
 have hs12 : s < 2 ^ 62 := Nat.lt_of_lt_of_le hs (Nat.pow_le_pow_right (by omega) (by omega))
 have HS := Lib.hid hs12
 clear hf hg hc hc2 hv hs hs12
 unfold noV
 rw [masks_len]
 go_enter Tryz.func108, Tryz.ntmps108
 go_wp2
 obtain ⟨W, hW⟩ : ∃ W, w.alloc (.cells #[.int .i64 t.size, .slice A t.size cap, .int .i64 (ix c 0), .int .i64 (ix c 1), .int .i64 (ix c 2), .int .i64 (ix c 3), .int .i64 (ix c 4), .int .i64 (ix c 5), .int .i64 (ix c 6), .int .i64 (ix c 7), .int .i64 (ix c 8), .int .i64 (ix c 9), .int .i64 (ix c 10), .int .i64 (ix c 11), .int .i64 t.basics.length, .slice A2 t.gates.length cap2] 110) = W := ⟨_, rfl⟩
 have hxW : Ext w W := by rw [← hW]; exact Ext.box _ _
 have n14 : W.cell? ⟨w.heap.size, 14, none⟩ = some (.int .i64 t.basics.length) := by rw [← hW]; exact cell_new _ _ _ 14
 have n15 : W.cell? ⟨w.heap.size, 15, none⟩ = some (.slice A2 t.gates.length cap2) := by rw [← hW]; exact cell_new _ _ _ 15
 rw [hW]
 clear hW
 go_loop [5, 14] (fun o i => ∃ (k : Nat), k ≤ t.size ∧ i = .int .i64 k ∧ o = .int .i64 (t.orTo s k : Nat)) (fun _ i => t.size - (intOf i).toNat)
 case atStart => exact ⟨0, Nat.zero_le _, rfl, rfl⟩
 case round =>
  obtain ⟨k, hk, rfl, rfl⟩ := hrel
  by_cases hlt : k < t.size
  · obtain ⟨b, off, rfl, hcell⟩ := HC.out k hlt
    rw [masks_ix hlt] at hcell
    replace hcell := hxW.cell hcell
    have hm := HV.out.maskAt_lt hlt
    have ho := HV.out.orTo_lt s k hk
    have hp12 : (2 : Nat) ^ t.basics.length ≤ 2 ^ 12 := Nat.pow_le_pow_right (by omega) hsb
    have hor := or64 (a := t.orTo s k) (b := t.maskAt k) (by omega) (by omega)
    have HO : Hid (t.orTo s (k + 1) = if s.testBit k then t.orTo s k ||| t.maskAt k else t.orTo s k) := by exact (rfl : t.orTo s (k + 1) = _)
    have hb1 := bit_and1 HS.out k
    obtain ⟨o, he⟩ : ∃ o, t.orTo s k = o := ⟨_, rfl⟩
    obtain ⟨m, hme⟩ : ∃ m, t.maskAt k = m := ⟨_, rfl⟩
    rw [he, hme] at hor HO
    rw [hme] at hcell
    rw [he]
    clear he hme hm ho hp12
    cases hb : s.testBit k with
    | true =>
      rw [hb] at HO hb1
      clear hb
      go_wp2
      go_round
      case rel => exact ⟨k + 1, by omega, by go_num, by rw [HO.out]; rfl⟩
      case measure => simp [intOf]; omega
    | false =>
      rw [hb] at HO hb1
      clear hb
      go_wp2
      go_round
      case rel => exact ⟨k + 1, by omega, by go_num, by rw [HO.out]; rfl⟩
      case measure => simp [intOf]; omega
  · have e0 : t.orTo s k = packB (t.gatesB (evN s) 0) := by rw [show k = t.size from by omega, HV.out.orTo_all]; rfl
    rw [e0]
    clear e0
    go_wp2
    go_loopw [5, 31] (fun o i wr => ∃ (g : Nat), g ≤ t.gates.length ∧ i = .int .i64 g ∧ o = .int .i64 (packB (t.gatesB (evN s) g) : Nat) ∧ Ext W wr) (fun _ i _ => t.gates.length - (intOf i).toNat)
    case atStart => exact ⟨0, Nat.zero_le _, rfl, rfl, Ext.refl _⟩
    case round =>
     obtain ⟨g, hg, rfl, rfl, hx⟩ := hrel
     replace n14 := hx.cell n14
     replace n15 := hx.cell n15
     by_cases hlg : g < t.gates.length
     · obtain ⟨b, off, rfl, hbl, g0, g1⟩ := HC2.out g hlg
       replace g0 := hx.cell (hxW.cell g0)
       replace g1 := hx.cell (hxW.cell g1)
       have hm := HV.out.gmask_lt hlg
       have ho := HV.out.gates_bd (evN s) hg
       have HST := Lib.hid (HV.out.step (evN s) hlg)
       have hand := and64 (a := packB (t.gatesB (evN s) g)) (b := (t.gt g).1) (by omega) (by omega)
       have hor := or_step (a := packB (t.gatesB (evN s) g)) (n := t.basics.length + g) (by omega) (by omega)
       obtain ⟨o, he⟩ : ∃ o, packB (t.gatesB (evN s) g) = o := ⟨_, rfl⟩
       obtain ⟨m, hme⟩ : ∃ m, (t.gt g).1 = m := ⟨_, rfl⟩
       obtain ⟨q, hq⟩ : ∃ q, (t.gt g).2 = q := ⟨_, rfl⟩
       rw [he, hme, hq] at HST
       rw [he, hme] at hand
       rw [he] at ho hor
       rw [hme] at g0 hm
       rw [hq] at g1
       rw [he]
       clear he hme hq hbl
       have hlt64 : o &&& m < 2 ^ 64 := Nat.lt_of_le_of_lt Nat.and_le_right (by omega)
       obtain ⟨r, hr⟩ : ∃ r, o &&& m = r := ⟨_, rfl⟩
       rw [hr] at HST hand hlt64
       clear hr
       obtain ⟨p, hp⟩ : ∃ p, popN r 64 = p := ⟨_, rfl⟩
       rw [hp] at HST
       have HON : Hid (∀ w', Calls Tryz.prog 137 #[.int .u64 r] w' fun e w'' => e = .returned (.int .i64 (p : Nat)) ∧ w' = w'') := by
        exact (by intro w'; rw [← hp]; exact Ones_any w' r hlt64 : ∀ w', Calls Tryz.prog 137 #[.int .u64 r] w' fun e w'' => e = .returned (.int .i64 (p : Nat)) ∧ w' = w'')
       have hwr : IntKind.u64.wrap (r : Int) = (r : Int) := wrapUN (by omega)
       clear hp hlt64 hm ho
       go_light
       go_wp2
       obtain ⟨W2, hW2⟩ : ∃ W2, wr.alloc (.cells #[.int .i64 m, .int .i64 q] 166) = W2 := ⟨_, rfl⟩
       have hx2 : Ext wr W2 := by rw [← hW2]; exact Ext.box _ _
       have k0 : W2.cell? ⟨wr.heap.size, 0, none⟩ = some (.int .i64 m) := by rw [← hW2]; exact cell_new _ _ _ 0
       have k1 : W2.cell? ⟨wr.heap.size, 1, none⟩ = some (.int .i64 q) := by rw [← hW2]; exact cell_new _ _ _ 1
       rw [hW2]
       replace n14 := hx2.cell n14
       have hxr := hx.trans hx2
       clear hW2
       refine Flow.region0 [.plain, .plain, .world, .plain, .world, .world, .plain, .world, .plain] [0, 1, 2, 3, 4, 5, 6, 7, 8] [[], [], [1], [0, 1, 2], [0, 1, 2, 3], [0, 1, 2, 3, 4], [], [6], [0, 1, 2, 3, 4, 5, 6, 7]]
        [.is 0 (fun v => .int .i64 (o : Nat)), .is 1 (fun v => .pointer (some ⟨wr.heap.size, 0, none⟩)), .is 2 (fun v => .int .i64 (m : Nat)), .is 3 (fun v => .int .i64 (r : Nat)), .is 4 (fun v => .int .u64 (r : Nat)), .is 5 (fun v => .int .i64 (p : Nat)), .is 6 (fun v => .pointer (some ⟨wr.heap.size, 1, none⟩)), .is 7 (fun v => .int .i64 q), .is 8 (fun v => .bool (decide (q ≤ (p : Int))))]
        (by kernel_rfl) rfl (by kernel_rfl) ⟨?g0, ?g1, ?g2, ?g3, ?g4, ?g5, ?g6, ?g7, ?g8, trivial⟩ ?post
       case g0 =>
        intro v w1 hx
        have k0 := hx.cell k0
        have k1 := hx.cell k1
        refine ⟨_, fun w => ?_, rfl⟩
        go_simp
       case g1 =>
        intro v w1 hx
        have k0 := hx.cell k0
        have k1 := hx.cell k1
        refine ⟨_, fun w => ?_, rfl⟩
        go_simp
       case g2 =>
        intro v w1 hx (q1 : v 1 = .pointer (some ⟨wr.heap.size, 0, none⟩))
        have k0 := hx.cell k0
        have k1 := hx.cell k1
        intro K hK
        go_simp
        exact hK _ _ (Ext.refl _) rfl
       case g3 =>
        intro v w1 hx (q0 : v 0 = .int .i64 (o : Nat)) (q1 : v 1 = .pointer (some ⟨wr.heap.size, 0, none⟩)) (q2 : v 2 = .int .i64 (m : Nat))
        have k0 := hx.cell k0
        have k1 := hx.cell k1
        refine ⟨_, fun w => ?_, rfl⟩
        go_simp
       case g4 =>
        intro v w1 hx (q0 : v 0 = .int .i64 (o : Nat)) (q1 : v 1 = .pointer (some ⟨wr.heap.size, 0, none⟩)) (q2 : v 2 = .int .i64 (m : Nat)) (q3 : v 3 = .int .i64 (r : Nat))
        have k0 := hx.cell k0
        have k1 := hx.cell k1
        intro K hK
        go_simp
        exact hK _ _ (Ext.refl _) rfl
       case g5 =>
        intro v w1 hx (q0 : v 0 = .int .i64 (o : Nat)) (q1 : v 1 = .pointer (some ⟨wr.heap.size, 0, none⟩)) (q2 : v 2 = .int .i64 (m : Nat)) (q3 : v 3 = .int .i64 (r : Nat)) (q4 : v 4 = .int .u64 (r : Nat))
        have k0 := hx.cell k0
        have k1 := hx.cell k1
        intro K hK
        go_simp
        refine gives_call (HON.out _) ?_
        rintro e w2 ⟨rfl, rfl⟩
        exact ⟨_, rfl, hK _ _ (Ext.refl _) rfl⟩
       case g6 =>
        intro v w1 hx
        have k0 := hx.cell k0
        have k1 := hx.cell k1
        refine ⟨_, fun w => ?_, rfl⟩
        go_simp
       case g7 =>
        intro v w1 hx (q6 : v 6 = .pointer (some ⟨wr.heap.size, 1, none⟩))
        have k0 := hx.cell k0
        have k1 := hx.cell k1
        intro K hK
        go_simp
        exact hK _ _ (Ext.refl _) rfl
       case g8 =>
        intro v w1 hx (q0 : v 0 = .int .i64 (o : Nat)) (q1 : v 1 = .pointer (some ⟨wr.heap.size, 0, none⟩)) (q2 : v 2 = .int .i64 (m : Nat)) (q3 : v 3 = .int .i64 (r : Nat)) (q4 : v 4 = .int .u64 (r : Nat)) (q5 : v 5 = .int .i64 (p : Nat)) (q6 : v 6 = .pointer (some ⟨wr.heap.size, 1, none⟩)) (q7 : v 7 = .int .i64 q)
        have k0 := hx.cell k0
        have k1 := hx.cell k1
        refine ⟨_, fun w => ?_, rfl⟩
        go_simp
       case post =>
        intro v w1 hx (q0 : v 0 = .int .i64 (o : Nat)) (q1 : v 1 = .pointer (some ⟨wr.heap.size, 0, none⟩)) (q2 : v 2 = .int .i64 (m : Nat)) (q3 : v 3 = .int .i64 (r : Nat)) (q4 : v 4 = .int .u64 (r : Nat)) (q5 : v 5 = .int .i64 (p : Nat)) (q6 : v 6 = .pointer (some ⟨wr.heap.size, 1, none⟩)) (q7 : v 7 = .int .i64 q) (q8 : v 8 = .bool (decide (q ≤ (p : Int))))
        simp only [Flow.All, Flow.acts, Act.put]
        go_simp
        replace n14 := ((Ext.refl W2).drew.trans hx).cell n14
        by_cases hd : q ≤ (p : Int)
        · rw [if_pos hd] at HST
          rw [decide_eq_true hd]
          clear hd
          go_wp2
          go_roundw
          case rel => exact ⟨g + 1, by omega, by go_num, by rw [HST.out], hxr.trans ((Ext.refl W2).drew.trans hx)⟩
          case measure => simp [intOf]; omega
        · rw [if_neg hd] at HST
          rw [decide_eq_false hd]
          clear hd
          go_wp2
          go_roundw
          case rel => exact ⟨g + 1, by omega, by go_num, by rw [HST.out], hxr.trans ((Ext.refl W2).drew.trans hx)⟩
          case measure => simp [intOf]; omega
     · go_wp2
       go_ret
       exact ⟨ret_int (by rw [show g = t.gates.length from by omega]; rfl), hxW.trans hx⟩
end Go.Proofs
namespace Go.Proofs
open Go.RowKit Go.Tw Go.Flow
/-- The nodes in a box. -/
structure NoBox (w : World) (g : Nat) (t : Tree) (c : List Int) (fv gv : Value) : Prop where
 n0 : w.cell? ⟨g, 0, none⟩ = some (.int .i64 t.size)
 n1 : w.cell? ⟨g, 1, none⟩ = some (fv)
 n2 : w.cell? ⟨g, 2, none⟩ = some (.int .i64 (ix c 0))
 n3 : w.cell? ⟨g, 3, none⟩ = some (.int .i64 (ix c 1))
 n4 : w.cell? ⟨g, 4, none⟩ = some (.int .i64 (ix c 2))
 n5 : w.cell? ⟨g, 5, none⟩ = some (.int .i64 (ix c 3))
 n6 : w.cell? ⟨g, 6, none⟩ = some (.int .i64 (ix c 4))
 n7 : w.cell? ⟨g, 7, none⟩ = some (.int .i64 (ix c 5))
 n8 : w.cell? ⟨g, 8, none⟩ = some (.int .i64 (ix c 6))
 n9 : w.cell? ⟨g, 9, none⟩ = some (.int .i64 (ix c 7))
 n10 : w.cell? ⟨g, 10, none⟩ = some (.int .i64 (ix c 8))
 n11 : w.cell? ⟨g, 11, none⟩ = some (.int .i64 (ix c 9))
 n12 : w.cell? ⟨g, 12, none⟩ = some (.int .i64 (ix c 10))
 n13 : w.cell? ⟨g, 13, none⟩ = some (.int .i64 (ix c 11))
 n14 : w.cell? ⟨g, 14, none⟩ = some (.int .i64 t.basics.length)
 n15 : w.cell? ⟨g, 15, none⟩ = some (gv)
theorem NoBox.ext {w w' : World} {g : Nat} {t : Tree} {c : List Int} {fv gv : Value} (h : NoBox w g t c fv gv) (hx : Ext w w') : NoBox w' g t c fv gv :=
 ⟨hx.cell h.n0, hx.cell h.n1, hx.cell h.n2, hx.cell h.n3, hx.cell h.n4, hx.cell h.n5, hx.cell h.n6, hx.cell h.n7, hx.cell h.n8, hx.cell h.n9, hx.cell h.n10, hx.cell h.n11, hx.cell h.n12, hx.cell h.n13, hx.cell h.n14, hx.cell h.n15⟩
theorem NoBox.new (w : World) (T : TypeId) (t : Tree) (c : List Int) (fv gv : Value) : NoBox (w.alloc (.cells #[.int .i64 t.size, fv, .int .i64 (ix c 0), .int .i64 (ix c 1), .int .i64 (ix c 2), .int .i64 (ix c 3), .int .i64 (ix c 4), .int .i64 (ix c 5), .int .i64 (ix c 6), .int .i64 (ix c 7), .int .i64 (ix c 8), .int .i64 (ix c 9), .int .i64 (ix c 10), .int .i64 (ix c 11), .int .i64 t.basics.length, gv] T)) w.heap.size t c fv gv :=
 ⟨cell_new _ _ _ 0, cell_new _ _ _ 1, cell_new _ _ _ 2, cell_new _ _ _ 3, cell_new _ _ _ 4, cell_new _ _ _ 5, cell_new _ _ _ 6, cell_new _ _ _ 7, cell_new _ _ _ 8, cell_new _ _ _ 9, cell_new _ _ _ 10, cell_new _ _ _ 11, cell_new _ _ _ 12, cell_new _ _ _ 13, cell_new _ _ _ 14, cell_new _ _ _ 15⟩
theorem run_loadFrom {P : Program} {w : World} {g : Nat} (cs : Nat → Value) : ∀ (n i : Nat) (acc : Array Value), (∀ k, k < n → w.cell? ⟨g, i + k, none⟩ = some (cs (i + k))) →
    (loadCellsFrom ⟨g, 0, none⟩ i n acc).run P w = .ok (acc ++ ((List.range' i n).map cs).toArray) w
 | 0, i, acc, _ => by simp [loadCellsFrom]
 | n + 1, i, acc, h => by
   have h0 := h 0 (by omega)
   rw [Nat.add_zero] at h0
   have ea : (⟨g, 0, none⟩ : Addr).add i = ⟨g, i, none⟩ := by rw [addr_add, Nat.zero_add]
   rw [loadCellsFrom, ea]
   simp only [Sem.run_bind, load, Sem.run, h0, Result.andThen_ok]
   rw [run_loadFrom cs n (i + 1) _ (fun k hk => by have := h (k + 1) (by omega); rwa [show i + (k + 1) = i + 1 + k from by omega] at this)]
   simp [List.range'_succ]
theorem run_load_nodes {w : World} {g : Nat} {t : Tree} {c : List Int} {fv gv : Value} (R : NoBox w g t c fv gv) : (loadVar 110 ⟨g, 0, none⟩).run Tryz.prog w = .ok (noV t c fv gv) w := by
 have h1 : (isAgg 110).run Tryz.prog w = .ok true w := by kernel_rfl
 have h2 : (sizeOf 110).run Tryz.prog w = .ok 16 w := by kernel_rfl
 have h3 : (loadCells ⟨g, 0, none⟩ 16).run Tryz.prog w = .ok (noV t c fv gv).cells w := by
  obtain ⟨n0, n1, n2, n3, n4, n5, n6, n7, n8, n9, n10, n11, n12, n13, n14, n15⟩ := R
  have := run_loadFrom (P := Tryz.prog) (w := w) (g := g) (fun k => ((noV t c fv gv).cells[k]?).getD undef) 16 0 #[] (fun k hk => by
   rw [Nat.zero_add]
   have : k = 0 ∨ k = 1 ∨ k = 2 ∨ k = 3 ∨ k = 4 ∨ k = 5 ∨ k = 6 ∨ k = 7 ∨ k = 8 ∨ k = 9 ∨ k = 10 ∨ k = 11 ∨ k = 12 ∨ k = 13 ∨ k = 14 ∨ k = 15 := by omega
   rcases this with rfl | rfl | rfl | rfl | rfl | rfl | rfl | rfl | rfl | rfl | rfl | rfl | rfl | rfl | rfl | rfl <;> assumption)
  exact this
 unfold loadVar
 simp only [Sem.run_bind, h1, h2, h3, Result.andThen_ok, if_true, Sem.run_pure]
 rfl
theorem run_loadAt_nodes {w : World} {g : Nat} {t : Tree} {c : List Int} {fv gv : Value} (R : NoBox w g t c fv gv) : (Instr.loadAt 110 (.pointer (some ⟨g, 0, none⟩))).run Tryz.prog w = .ok (noV t c fv gv) w := by
 unfold Instr.loadAt
 simp only [Sem.run_bind, Instr.sureAddr, Sem.run_pure, Result.andThen_ok, run_load_nodes R]
/-- The load of the nodes out of their box, inside a region. -/
theorem gives_load_nodes {K : Value → World → Prop} {o : Oper} {a : Act} {w : World} (p : Operand) (ho : o.op = .load 110 p) {g : Nat} (hp : a.eval p = .pointer (some ⟨g, 0, none⟩)) {t : Tree} {c : List Int} {fv gv : Value} (R : NoBox w g t c fv gv)
    (h : K (noV t c fv gv) w) : gives Tryz.prog K ((execOp a.eval o).run Tryz.prog w) := by
 unfold execOp
 simp only [ho, hp, Sem.run_bind, run_loadAt_nodes R, Result.andThen_ok]
 exact h
theorem fails_bit (t : Tree) (ev : Nat → Bool) : (packB (t.states ev)).testBit (t.nodes - 1) = t.fails ev := packB_bit _ _
set_option maxRecDepth 100000 in
set_option maxHeartbeats 1000000 in
theorem cut_any (w : World) (fv gv : Value) (t : Tree) (c : List Int) (s : Nat) (hv : Valid t) (hs : s < 2 ^ t.size) (hn : IsNo w fv gv t) :
    Calls Tryz.prog 65 #[noV t c fv gv, .int .i64 s] w fun e w' => e = .returned (.bool (t.fails (evN s))) ∧ Ext w w' := by
 have HN := Lib.hid hn
 obtain ⟨A2, cap2, hgv, hl2, hcap2, _⟩ := hn.gates.opened
 have hsz := hv.size
 have hng := hv.ng'
 have hnb := hv.nb
 have hng1 := hv.ng
 have HV := Lib.hid hv
 have HS := Lib.hid hs
 have hsb : t.basics.length ≤ 12 := by unfold Tree.size at hsz; omega
 obtain ⟨M, hM⟩ : ∃ M, t.nodes = M + 1 := ⟨t.nodes - 1, by unfold Tree.nodes; omega⟩
 have hM1 : (t.basics.length : Int) + (t.gates.length : Int) - 1 = (M : Int) := by unfold Tree.nodes at hM; omega
 have hwM : IntKind.i64.wrap (M : Int) = (M : Int) := wrap62 _ (by omega) (by unfold Tree.nodes at hM; omega)
 have hwS : IntKind.i64.wrap ((t.basics.length : Int) + (t.gates.length : Int)) = (t.basics.length : Int) + (t.gates.length : Int) := wrap62 _ (by omega) (by omega)
 have hM2 : M < 62 := by unfold Tree.nodes at hM; omega
 have hFB : Hid ((packB (t.states (evN s))).testBit M = t.fails (evN s)) := by
  exact (by have := fails_bit t (evN s); rwa [hM, Nat.add_sub_cancel] at this : (packB (t.states (evN s))).testBit M = t.fails (evN s))
 have hX : packB (t.states (evN s)) < 2 ^ 62 := Nat.lt_of_lt_of_le (hv.gates_bd (evN s) (Nat.le_refl _)) (by decide)
 have HB := NoBox.new w 110 t c fv gv
 obtain ⟨X, hXe⟩ : ∃ X, packB (t.states (evN s)) = X := ⟨_, rfl⟩
 have HCF : Hid (∀ w', IsNo w' fv gv t → Calls Tryz.prog 108 #[noV t c fv gv, .int .i64 s] w' fun e w'' => e = .returned (.int .i64 (X : Nat)) ∧ Ext w' w'') := by
  exact (by intro w' h; rw [← hXe]; exact failing_any _ _ _ t c s hv hs h : ∀ w', IsNo w' fv gv t → Calls Tryz.prog 108 #[noV t c fv gv, .int .i64 s] w' fun e w'' => e = .returned (.int .i64 (X : Nat)) ∧ Ext w' w'')
 rw [hXe] at hX hFB
 have hb1 := bit_and1 hX M
 rw [hFB.out] at hb1
 subst hgv
 clear hn hv hs hM hXe hX
 unfold noV
 go_enter Tryz.func65, Tryz.ntmps65
 go_wp2
 have hxW := Ext.box w (.cells #[.int .i64 t.size, fv, .int .i64 (ix c 0), .int .i64 (ix c 1), .int .i64 (ix c 2), .int .i64 (ix c 3), .int .i64 (ix c 4), .int .i64 (ix c 5), .int .i64 (ix c 6), .int .i64 (ix c 7), .int .i64 (ix c 8), .int .i64 (ix c 9), .int .i64 (ix c 10), .int .i64 (ix c 11), .int .i64 t.basics.length, .slice A2 t.gates.length cap2] 110)
 obtain ⟨W, hW⟩ : ∃ W, w.alloc (.cells #[.int .i64 t.size, fv, .int .i64 (ix c 0), .int .i64 (ix c 1), .int .i64 (ix c 2), .int .i64 (ix c 3), .int .i64 (ix c 4), .int .i64 (ix c 5), .int .i64 (ix c 6), .int .i64 (ix c 7), .int .i64 (ix c 8), .int .i64 (ix c 9), .int .i64 (ix c 10), .int .i64 (ix c 11), .int .i64 t.basics.length, .slice A2 t.gates.length cap2] 110) = W := ⟨_, rfl⟩
 rw [hW] at HB hxW ⊢
 clear hW
 have hxd := (Ext.refl W).drew
 refine Flow.region0 [.world, .plain, .world, .plain, .world, .plain, .world, .plain, .plain, .plain, .plain, .plain, .plain, .plain] [0, 1, 2, 3, 4, 5, 6, 7, 8, 9, 10, 11, 12, 13] [[], [], [0, 1], [], [3], [], [5], [5, 6], [3, 4, 5, 6, 7], [3, 4, 5, 6, 7, 8], [0, 1, 2, 3, 4, 5, 6, 7, 8, 9], [0, 1, 2, 3, 4, 5, 6, 7, 8, 9, 10], [0, 1, 2, 3, 4, 5, 6, 7, 8, 9, 10, 11], [0, 1, 2, 3, 4, 5, 6, 7, 8, 9, 10, 11, 12]]
  [.is 0 (fun v => noV t c fv (.slice A2 t.gates.length cap2)), .is 1 (fun v => .int .i64 s), .is 2 (fun v => .int .i64 (X : Nat)), .is 3 (fun v => .pointer (some ⟨w.heap.size, 14, none⟩)), .is 4 (fun v => .int .i64 t.basics.length), .is 5 (fun v => .pointer (some ⟨w.heap.size, 15, none⟩)), .is 6 (fun v => .slice A2 t.gates.length cap2), .is 7 (fun v => .int .i64 t.gates.length), .is 8 (fun v => .int .i64 ((t.basics.length : Int) + (t.gates.length : Int))), .is 9 (fun v => .int .i64 (M : Int)), .is 10 (fun v => .int .i64 ((X : Int) / 2 ^ M)), .is 11 (fun v => .int .i64 (bits .and .i64 ((X : Int) / 2 ^ M) 1)), .is 12 (fun v => .bool (t.fails (evN s))), .is 13 (fun v => .bool (t.fails (evN s)))]
  (by kernel_rfl) rfl (by kernel_rfl) ⟨?g0, ?g1, ?g2, ?g3, ?g4, ?g5, ?g6, ?g7, ?g8, ?g9, ?g10, ?g11, ?g12, ?g13, trivial⟩ ?post
 case g0 =>
  intro v w1 hx
  intro K hK
  exact gives_load_nodes _ rfl (by go_simp) (HB.ext (hxd.trans hx)) (hK _ _ (Ext.refl _) rfl)
 case g1 =>
  intro v w1 hx
  refine ⟨_, fun w => ?_, rfl⟩
  go_simp
 case g2 =>
  intro v w1 hx (q0 : v 0 = noV t c fv (.slice A2 t.gates.length cap2)) (q1 : v 1 = .int .i64 s)
  intro K hK
  go_simp
  refine gives_call (HCF.out _ (HN.out.ext (hxW.trans ((Ext.refl W).drew.trans hx)))) ?_
  rintro e w2 ⟨rfl, hx2⟩
  exact ⟨_, rfl, hK _ _ hx2 rfl⟩
 case g3 =>
  intro v w1 hx
  refine ⟨_, fun w => ?_, rfl⟩
  go_simp
 case g4 =>
  intro v w1 hx (q3 : v 3 = .pointer (some ⟨w.heap.size, 14, none⟩))
  have n14 := (HB.ext (hxd.trans hx)).n14
  intro K hK
  go_simp
  exact hK _ _ (Ext.refl _) rfl
 case g5 =>
  intro v w1 hx
  refine ⟨_, fun w => ?_, rfl⟩
  go_simp
 case g6 =>
  intro v w1 hx (q5 : v 5 = .pointer (some ⟨w.heap.size, 15, none⟩))
  have n15 := (HB.ext (hxd.trans hx)).n15
  intro K hK
  go_simp
  exact hK _ _ (Ext.refl _) rfl
 case g7 =>
  intro v w1 hx (q5 : v 5 = .pointer (some ⟨w.heap.size, 15, none⟩)) (q6 : v 6 = .slice A2 t.gates.length cap2)
  refine ⟨_, fun w => ?_, rfl⟩
  go_simp
 case g8 =>
  intro v w1 hx (q3 : v 3 = .pointer (some ⟨w.heap.size, 14, none⟩)) (q4 : v 4 = .int .i64 t.basics.length) (q5 : v 5 = .pointer (some ⟨w.heap.size, 15, none⟩)) (q6 : v 6 = .slice A2 t.gates.length cap2) (q7 : v 7 = .int .i64 t.gates.length)
  refine ⟨_, fun w => ?_, rfl⟩
  go_simp
 case g9 =>
  intro v w1 hx (q3 : v 3 = .pointer (some ⟨w.heap.size, 14, none⟩)) (q4 : v 4 = .int .i64 t.basics.length) (q5 : v 5 = .pointer (some ⟨w.heap.size, 15, none⟩)) (q6 : v 6 = .slice A2 t.gates.length cap2) (q7 : v 7 = .int .i64 t.gates.length) (q8 : v 8 = .int .i64 ((t.basics.length : Int) + (t.gates.length : Int)))
  refine ⟨_, fun w => ?_, rfl⟩
  go_simp
 case g10 =>
  intro v w1 hx (q0 : v 0 = noV t c fv (.slice A2 t.gates.length cap2)) (q1 : v 1 = .int .i64 s) (q2 : v 2 = .int .i64 (X : Nat)) (q3 : v 3 = .pointer (some ⟨w.heap.size, 14, none⟩)) (q4 : v 4 = .int .i64 t.basics.length) (q5 : v 5 = .pointer (some ⟨w.heap.size, 15, none⟩)) (q6 : v 6 = .slice A2 t.gates.length cap2) (q7 : v 7 = .int .i64 t.gates.length) (q8 : v 8 = .int .i64 ((t.basics.length : Int) + (t.gates.length : Int))) (q9 : v 9 = .int .i64 (M : Int))
  refine ⟨_, fun w => ?_, rfl⟩
  go_simp
 case g11 =>
  intro v w1 hx (q0 : v 0 = noV t c fv (.slice A2 t.gates.length cap2)) (q1 : v 1 = .int .i64 s) (q2 : v 2 = .int .i64 (X : Nat)) (q3 : v 3 = .pointer (some ⟨w.heap.size, 14, none⟩)) (q4 : v 4 = .int .i64 t.basics.length) (q5 : v 5 = .pointer (some ⟨w.heap.size, 15, none⟩)) (q6 : v 6 = .slice A2 t.gates.length cap2) (q7 : v 7 = .int .i64 t.gates.length) (q8 : v 8 = .int .i64 ((t.basics.length : Int) + (t.gates.length : Int))) (q9 : v 9 = .int .i64 (M : Int)) (q10 : v 10 = .int .i64 ((X : Int) / 2 ^ M))
  refine ⟨_, fun w => ?_, rfl⟩
  go_simp
 case g12 =>
  intro v w1 hx (q0 : v 0 = noV t c fv (.slice A2 t.gates.length cap2)) (q1 : v 1 = .int .i64 s) (q2 : v 2 = .int .i64 (X : Nat)) (q3 : v 3 = .pointer (some ⟨w.heap.size, 14, none⟩)) (q4 : v 4 = .int .i64 t.basics.length) (q5 : v 5 = .pointer (some ⟨w.heap.size, 15, none⟩)) (q6 : v 6 = .slice A2 t.gates.length cap2) (q7 : v 7 = .int .i64 t.gates.length) (q8 : v 8 = .int .i64 ((t.basics.length : Int) + (t.gates.length : Int))) (q9 : v 9 = .int .i64 (M : Int)) (q10 : v 10 = .int .i64 ((X : Int) / 2 ^ M)) (q11 : v 11 = .int .i64 (bits .and .i64 ((X : Int) / 2 ^ M) 1))
  refine ⟨_, fun w => ?_, rfl⟩
  go_simp
 case g13 =>
  intro v w1 hx (q0 : v 0 = noV t c fv (.slice A2 t.gates.length cap2)) (q1 : v 1 = .int .i64 s) (q2 : v 2 = .int .i64 (X : Nat)) (q3 : v 3 = .pointer (some ⟨w.heap.size, 14, none⟩)) (q4 : v 4 = .int .i64 t.basics.length) (q5 : v 5 = .pointer (some ⟨w.heap.size, 15, none⟩)) (q6 : v 6 = .slice A2 t.gates.length cap2) (q7 : v 7 = .int .i64 t.gates.length) (q8 : v 8 = .int .i64 ((t.basics.length : Int) + (t.gates.length : Int))) (q9 : v 9 = .int .i64 (M : Int)) (q10 : v 10 = .int .i64 ((X : Int) / 2 ^ M)) (q11 : v 11 = .int .i64 (bits .and .i64 ((X : Int) / 2 ^ M) 1)) (q12 : v 12 = .bool (t.fails (evN s)))
  refine ⟨_, fun w => ?_, rfl⟩
  go_simp
 case post =>
  intro v w1 hx (q0 : v 0 = noV t c fv (.slice A2 t.gates.length cap2)) (q1 : v 1 = .int .i64 s) (q2 : v 2 = .int .i64 (X : Nat)) (q3 : v 3 = .pointer (some ⟨w.heap.size, 14, none⟩)) (q4 : v 4 = .int .i64 t.basics.length) (q5 : v 5 = .pointer (some ⟨w.heap.size, 15, none⟩)) (q6 : v 6 = .slice A2 t.gates.length cap2) (q7 : v 7 = .int .i64 t.gates.length) (q8 : v 8 = .int .i64 ((t.basics.length : Int) + (t.gates.length : Int))) (q9 : v 9 = .int .i64 (M : Int)) (q10 : v 10 = .int .i64 ((X : Int) / 2 ^ M)) (q11 : v 11 = .int .i64 (bits .and .i64 ((X : Int) / 2 ^ M) 1)) (q12 : v 12 = .bool (t.fails (evN s))) (q13 : v 13 = .bool (t.fails (evN s)))
  simp only [Flow.All, Flow.acts, Act.put]
  go_simp
  go_wp2
  go_ret
  exact ⟨rfl, hxW.trans ((Ext.refl W).drew.trans hx)⟩
end Go.Proofs
