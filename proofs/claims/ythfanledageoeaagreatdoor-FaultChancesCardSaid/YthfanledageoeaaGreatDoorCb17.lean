/- Contracts: all events, path sets, the whole. -/
import Derived.Test.YthfanledageoeaaGreatDoorCb16
set_option linter.unusedVariables false
set_option linter.unusedSimpArgs false
set_option linter.constructorNameAsVariable false
namespace Go.Proofs
open Go.RowKit Go.Tw Go.Flow
theorem andNot64 {a b : Nat} (ha : a < 2 ^ 62) (hb : b < 2 ^ 62) : bits .andNot .i64 (a : Int) (b : Int) = ((clearB a b : Nat) : Int) := by
 have e1 : (BitVec.ofInt 64 (a : Int)).toNat = a := by rw [BitVec.ofInt_natCast, BitVec.toNat_ofNat]; exact Nat.mod_eq_of_lt (by omega)
 have e2 : (BitVec.ofInt 64 (b : Int)).toNat = b := by rw [BitVec.ofInt_natCast, BitVec.toNat_ofNat]; exact Nat.mod_eq_of_lt (by omega)
 have e3 : (BitVec.ofInt 64 (a : Int) &&& ~~~ BitVec.ofInt 64 (b : Int)).toNat = clearB a b := by
  apply Nat.eq_of_testBit_eq
  intro i
  rw [clearB_bit, BitVec.toNat_and, e1, BitVec.toNat_not, e2, Nat.testBit_and, Nat.sub_sub, Nat.add_comm 1 b, Nat.testBit_two_pow_sub_succ (by omega)]
  by_cases hi : i < 64
  · rw [decide_eq_true hi, Bool.true_and]
  · rw [Nat.testBit_lt_two_pow (Nat.lt_of_lt_of_le ha (Nat.pow_le_pow_right (by omega) (by omega)))]; rfl
 have h4 := clearB_lt b ha
 show IntKind.i64.wrap ((BitVec.ofInt 64 (a : Int) &&& ~~~ BitVec.ofInt 64 (b : Int)).toNat : Int) = _
 rw [e3]
 exact wrap62 _ (by omega) (by omega)
theorem all_wrap {n : Nat} (h : n ≤ 12) : wrap64 (wrap64 (2 ^ n) - 1) = ((2 ^ n - 1 : Nat) : Int) := by
 have h1 : (1 : Nat) ≤ 2 ^ n := Nat.one_le_two_pow
 have h2 : (2 : Nat) ^ n ≤ 2 ^ 12 := Nat.pow_le_pow_right (by omega) h
 rw [pow64 (by omega)]
 unfold wrap64
 omega
theorem whole_wrap {n : Nat} (h : n ≤ 12) : wrap64 (2 ^ (4 * n)) = ((powN 16 n : Nat) : Int) := by
 rw [pow64 (by omega)]
 unfold powN
 rw [show (16 : Nat) = 2 ^ 4 from rfl, ← Nat.pow_mul]
theorem all_any (w : World) (t : Tree) (c : List Int) (A : Option Addr) (n cap : Nat) (hs : t.size ≤ 12) :
    Calls Tryz.prog 83 #[evV t c (.slice A n cap)] w fun e w' => e = .returned (.int .i64 (2 ^ t.size - 1 : Nat)) ∧ Ext w w' := by
 unfold evV
 have HA := Lib.hid (all_wrap hs)
 go_enter Tryz.func83, Tryz.ntmps83
 go_wp2
 go_ret
 exact ⟨ret_int HA.out, Ext.box _ _⟩
theorem whole_any (w : World) (t : Tree) (c : List Int) (A G : Option Addr) (n cap m capg : Nat) (hs : t.size ≤ 12) :
    Calls Tryz.prog 102 #[noV t c (.slice A n cap) (.slice G m capg)] w fun e w' => e = .returned (.int .i64 (powN 16 t.size : Nat)) ∧ Ext w w' := by
 unfold noV
 have HA := Lib.hid (whole_wrap hs)
 go_enter Tryz.func102, Tryz.ntmps102
 go_wp2
 go_ret
 exact ⟨ret_int HA.out, Ext.box _ _⟩
theorem run_loadAt_events {w : World} {g : Nat} {t : Tree} {c : List Int} {fv gv : Value} (R : NoBox w g t c fv gv) : (Instr.loadAt 107 (.pointer (some ⟨g, 0, none⟩))).run Tryz.prog w = .ok (evV t c fv) w := by
 have h1 : (isAgg 107).run Tryz.prog w = .ok true w := by kernel_rfl
 have h2 : (sizeOf 107).run Tryz.prog w = .ok 14 w := by kernel_rfl
 have h3 : (loadCells ⟨g, 0, none⟩ 14).run Tryz.prog w = .ok (evV t c fv).cells w := by
  obtain ⟨n0, n1, n2, n3, n4, n5, n6, n7, n8, n9, n10, n11, n12, n13, n14, n15⟩ := R
  have := run_loadFrom (P := Tryz.prog) (w := w) (g := g) (fun k => ((evV t c fv).cells[k]?).getD undef) 14 0 #[] (fun k hk => by
   rw [Nat.zero_add]
   have : k = 0 ∨ k = 1 ∨ k = 2 ∨ k = 3 ∨ k = 4 ∨ k = 5 ∨ k = 6 ∨ k = 7 ∨ k = 8 ∨ k = 9 ∨ k = 10 ∨ k = 11 ∨ k = 12 ∨ k = 13 := by omega
   rcases this with rfl | rfl | rfl | rfl | rfl | rfl | rfl | rfl | rfl | rfl | rfl | rfl | rfl | rfl <;> assumption)
  exact this
 unfold Instr.loadAt
 simp only [Sem.run_bind, Instr.sureAddr, Sem.run_pure, Result.andThen_ok, loadVar, h1, h2, h3, if_true]
 rfl
theorem gives_load_events {K : Value → World → Prop} {o : Oper} {a : Act} {w : World} (p : Operand) (ho : o.op = .load 107 p) {g : Nat} (hp : a.eval p = .pointer (some ⟨g, 0, none⟩)) {t : Tree} {c : List Int} {fv gv : Value} (R : NoBox w g t c fv gv)
    (h : K (evV t c fv) w) : gives Tryz.prog K ((execOp a.eval o).run Tryz.prog w) := by
 unfold execOp
 simp only [ho, hp, Sem.run_bind, run_loadAt_events R, Result.andThen_ok]
 exact h
def othersN (t : Tree) (s : Nat) : Nat := clearB (2 ^ t.size - 1) s
theorem othersN_lt (t : Tree) (s : Nat) : othersN t s < 2 ^ t.size := clearB_lt s (by have := Nat.two_pow_pos t.size; omega)
set_option maxRecDepth 100000 in
set_option maxHeartbeats 1000000 in
theorem path_any (w : World) (fv gv : Value) (t : Tree) (c : List Int) (s : Nat) (hv : Valid t) (hs : s < 2 ^ t.size) (hn : IsNo w fv gv t) :
    Calls Tryz.prog 66 #[noV t c fv gv, .int .i64 s] w fun e w' => e = .returned (.bool (!t.fails (evN (othersN t s)))) ∧ Ext w w' := by
 obtain ⟨A1, cap1, hfv, _, _, _⟩ := hn.fails.opened
 obtain ⟨A2, cap2, hgv, _, _, _⟩ := hn.gates.opened
 rw [masks_len] at hfv
 have hsz := hv.size
 have h12 : (2 : Nat) ^ t.size ≤ 2 ^ 12 := Nat.pow_le_pow_right (by omega) hsz
 have han := andNot64 (a := 2 ^ t.size - 1) (b := s) (by omega) (by omega)
 have hol := othersN_lt t s
 obtain ⟨Z, hZ⟩ : ∃ Z, othersN t s = Z := ⟨_, rfl⟩
 have hZ' : clearB (2 ^ t.size - 1) s = Z := hZ
 rw [hZ'] at han
 rw [hZ] at hol ⊢
 obtain ⟨Y, hY⟩ : ∃ Y, 2 ^ t.size - 1 = Y := ⟨_, rfl⟩
 rw [hY] at han
 have HAL : Hid (∀ w', Calls Tryz.prog 83 #[evV t c fv] w' fun e w'' => e = .returned (.int .i64 (Y : Nat)) ∧ Ext w' w'') := by
  exact (by intro w'; rw [← hY, hfv]; exact all_any w' t c A1 _ _ hsz : ∀ w', Calls Tryz.prog 83 #[evV t c fv] w' fun e w'' => e = .returned (.int .i64 (Y : Nat)) ∧ Ext w' w'')
 have HN := Lib.hid hn
 have HV := Lib.hid hv
 have HOL := Lib.hid hol
 have HB := NoBox.new w 110 t c fv gv
 subst hfv hgv
 clear hn hv hs hZ hZ' hol hY h12
 unfold noV
 go_enter Tryz.func66, Tryz.ntmps66
 go_wp2
 have hxW := Ext.box w (.cells #[.int .i64 t.size, .slice A1 t.size cap1, .int .i64 (ix c 0), .int .i64 (ix c 1), .int .i64 (ix c 2), .int .i64 (ix c 3), .int .i64 (ix c 4), .int .i64 (ix c 5), .int .i64 (ix c 6), .int .i64 (ix c 7), .int .i64 (ix c 8), .int .i64 (ix c 9), .int .i64 (ix c 10), .int .i64 (ix c 11), .int .i64 t.basics.length, .slice A2 t.gates.length cap2] 110)
 obtain ⟨W, hW⟩ : ∃ W, w.alloc (.cells #[.int .i64 t.size, .slice A1 t.size cap1, .int .i64 (ix c 0), .int .i64 (ix c 1), .int .i64 (ix c 2), .int .i64 (ix c 3), .int .i64 (ix c 4), .int .i64 (ix c 5), .int .i64 (ix c 6), .int .i64 (ix c 7), .int .i64 (ix c 8), .int .i64 (ix c 9), .int .i64 (ix c 10), .int .i64 (ix c 11), .int .i64 t.basics.length, .slice A2 t.gates.length cap2] 110) = W := ⟨_, rfl⟩
 rw [hW] at HB hxW ⊢
 clear hW
 have hxd := (Ext.refl W).drew
 refine Flow.region0 [.world, .plain, .world, .world, .plain, .plain, .world, .plain, .plain] [0, 1, 2, 3, 4, 5, 6, 7, 8] [[], [], [1], [1, 2], [], [1, 2, 3, 4], [0, 1, 2, 3, 4, 5], [0, 1, 2, 3, 4, 5, 6], [0, 1, 2, 3, 4, 5, 6, 7]]
  [.is 0 (fun v => noV t c (.slice A1 t.size cap1) (.slice A2 t.gates.length cap2)), .is 1 (fun v => .pointer (some ⟨w.heap.size, 0, none⟩)), .is 2 (fun v => evV t c (.slice A1 t.size cap1)), .is 3 (fun v => .int .i64 (Y : Nat)), .is 4 (fun v => .int .i64 s), .is 5 (fun v => .int .i64 (Z : Nat)), .is 6 (fun v => .bool (t.fails (evN Z))), .is 7 (fun v => .bool (!t.fails (evN Z))), .is 8 (fun v => .bool (!t.fails (evN Z)))]
  (by kernel_rfl) rfl (by kernel_rfl) ⟨?g0, ?g1, ?g2, ?g3, ?g4, ?g5, ?g6, ?g7, ?g8, trivial⟩ ?post
 case g0 =>
  intro v w1 hx
  intro K hK
  exact gives_load_nodes _ rfl (by go_simp) (HB.ext (hxd.trans hx)) (hK _ _ (Ext.refl _) rfl)
 case g1 =>
  intro v w1 hx
  refine ⟨_, fun w => ?_, rfl⟩
  go_simp
 case g2 =>
  intro v w1 hx (q1 : v 1 = .pointer (some ⟨w.heap.size, 0, none⟩))
  intro K hK
  exact gives_load_events _ rfl (by go_simp) (HB.ext (hxd.trans hx)) (hK _ _ (Ext.refl _) rfl)
 case g3 =>
  intro v w1 hx (q1 : v 1 = .pointer (some ⟨w.heap.size, 0, none⟩)) (q2 : v 2 = evV t c (.slice A1 t.size cap1))
  intro K hK
  go_simp
  refine gives_call (HAL.out _) ?_
  rintro e w2 ⟨rfl, hx2⟩
  exact ⟨_, rfl, hK _ _ hx2 rfl⟩
 case g4 =>
  intro v w1 hx
  refine ⟨_, fun w => ?_, rfl⟩
  go_simp
 case g5 =>
  intro v w1 hx (q1 : v 1 = .pointer (some ⟨w.heap.size, 0, none⟩)) (q2 : v 2 = evV t c (.slice A1 t.size cap1)) (q3 : v 3 = .int .i64 (Y : Nat)) (q4 : v 4 = .int .i64 s)
  refine ⟨_, fun w => ?_, rfl⟩
  go_simp
 case g6 =>
  intro v w1 hx (q0 : v 0 = noV t c (.slice A1 t.size cap1) (.slice A2 t.gates.length cap2)) (q1 : v 1 = .pointer (some ⟨w.heap.size, 0, none⟩)) (q2 : v 2 = evV t c (.slice A1 t.size cap1)) (q3 : v 3 = .int .i64 (Y : Nat)) (q4 : v 4 = .int .i64 s) (q5 : v 5 = .int .i64 (Z : Nat))
  intro K hK
  go_simp
  refine gives_call (cut_any _ _ _ t c Z HV.out HOL.out (HN.out.ext (hxW.trans (hxd.trans hx)))) ?_
  rintro e w2 ⟨rfl, hx2⟩
  exact ⟨_, rfl, hK _ _ hx2 rfl⟩
 case g7 =>
  intro v w1 hx (q0 : v 0 = noV t c (.slice A1 t.size cap1) (.slice A2 t.gates.length cap2)) (q1 : v 1 = .pointer (some ⟨w.heap.size, 0, none⟩)) (q2 : v 2 = evV t c (.slice A1 t.size cap1)) (q3 : v 3 = .int .i64 (Y : Nat)) (q4 : v 4 = .int .i64 s) (q5 : v 5 = .int .i64 (Z : Nat)) (q6 : v 6 = .bool (t.fails (evN Z)))
  refine ⟨_, fun w => ?_, rfl⟩
  go_simp
 case g8 =>
  intro v w1 hx (q0 : v 0 = noV t c (.slice A1 t.size cap1) (.slice A2 t.gates.length cap2)) (q1 : v 1 = .pointer (some ⟨w.heap.size, 0, none⟩)) (q2 : v 2 = evV t c (.slice A1 t.size cap1)) (q3 : v 3 = .int .i64 (Y : Nat)) (q4 : v 4 = .int .i64 s) (q5 : v 5 = .int .i64 (Z : Nat)) (q6 : v 6 = .bool (t.fails (evN Z))) (q7 : v 7 = .bool (!t.fails (evN Z)))
  refine ⟨_, fun w => ?_, rfl⟩
  go_simp
 case post =>
  intro v w1 hx (q0 : v 0 = noV t c (.slice A1 t.size cap1) (.slice A2 t.gates.length cap2)) (q1 : v 1 = .pointer (some ⟨w.heap.size, 0, none⟩)) (q2 : v 2 = evV t c (.slice A1 t.size cap1)) (q3 : v 3 = .int .i64 (Y : Nat)) (q4 : v 4 = .int .i64 s) (q5 : v 5 = .int .i64 (Z : Nat)) (q6 : v 6 = .bool (t.fails (evN Z))) (q7 : v 7 = .bool (!t.fails (evN Z))) (q8 : v 8 = .bool (!t.fails (evN Z)))
  simp only [Flow.All, Flow.acts, Act.put]
  go_simp
  go_wp2
  go_ret
  exact ⟨rfl, hxW.trans (hxd.trans hx)⟩
end Go.Proofs
