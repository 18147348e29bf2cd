/- Contract of isName: a name by its bytes. Contracts: sets as bits; the order of sets. -/
import Derived.Test.YthfanledageoeaaGreatDoorCb05
set_option linter.unusedVariables false
set_option linter.unusedSimpArgs false
set_option linter.constructorNameAsVariable false
namespace Go.Proofs
open Go.RowKit Go.Tw Go.Flow
def nameFrom (first : Bool) : List UInt8 → Bool
 | [] => true
 | c :: l => (letterB c || (!first && otherB c)) && nameFrom false l
theorem nameFrom_all : ∀ l : List UInt8, nameFrom false l = l.all fun c => letterB c || otherB c
 | [] => rfl
 | c :: l => by simp [nameFrom, nameFrom_all l]
theorem nameB_from (s : ByteArray) : nameB s = (nameFrom true s.data.toList && (decide (s.data.toList ≠ []) && decide (s.data.toList.length ≤ 24))) := by
 unfold nameB
 cases s.data.toList with
 | nil => rfl
 | cons c l =>
   simp only [nameFrom, nameFrom_all, Bool.not_true, Bool.false_and, Bool.or_false, List.length_cons]
   rw [show decide (c :: l ≠ []) = true from by simp, Bool.true_and]
   congr 1
theorem byte_at (s : ByteArray) (pos : Nat) (h : pos < s.size) : s.data.toList.drop pos = s[pos]'h :: s.data.toList.drop (pos + 1) := by
 have h' : pos < s.data.toList.length := by simpa using h
 rw [List.drop_eq_getElem_cons h']
 rfl
theorem letter_iff (c : UInt8) : letterB c = (decide (97 ≤ c.toNat ∧ c.toNat ≤ 122) || decide (65 ≤ c.toNat ∧ c.toNat ≤ 90)) := by
 unfold letterB
 simp only [UInt8.le_iff_toNat_le]
 simp
theorem other_iff (c : UInt8) : otherB c = (decide (c.toNat = 95) || decide (48 ≤ c.toNat ∧ c.toNat ≤ 57)) := by
 unfold otherB
 simp only [UInt8.le_iff_toNat_le]
 rw [show (c == 95) = decide (c.toNat = 95) from by rw [show (c == 95) = decide (c = 95) from rfl]; exact decide_eq_decide.2 ⟨fun h => by subst h; rfl, fun h => UInt8.toNat_inj.1 h⟩]
 simp
/-- What the next rune is, by the byte that stands there. -/
theorem rune_at (s : ByteArray) (pos : Nat) (h : pos < s.size) : ∃ n d, Utf8.decode s pos = (n, d) ∧ 1 ≤ d ∧ (n < 128 → n = (s[pos]'h).toNat ∧ d = 1) ∧ (128 ≤ n → 128 ≤ (s[pos]'h).toNat) := by
 by_cases ha : (s[pos]'h).toNat < 128
 · exact ⟨_, _, decode_ascii s pos h ha, Nat.le_refl _, fun _ => ⟨rfl, rfl⟩, fun h' => h'⟩
 · have := decode_high s pos h (by omega)
   obtain ⟨n, d, hnd⟩ : ∃ n d, Utf8.decode s pos = (n, d) := ⟨_, _, rfl⟩
   rw [hnd] at this
   exact ⟨n, d, hnd, this.2, fun h' => by have := this.1; omega, fun _ => by omega⟩
theorem nil_data {s : ByteArray} (h : s.toList = []) : s.data.toList = [] := by rw [toList_nil_iff_emptyBytes] at h; subst h; rfl
theorem ne_data {s : ByteArray} (h : ¬ s.toList = []) : s.data.toList ≠ [] := fun e => h (by
 rw [toList_nil_iff_emptyBytes]
 obtain ⟨⟨l⟩⟩ := s
 simp only at e
 subst e; rfl)
set_option maxHeartbeats 800000 in
theorem isName_any (w : World) (s : ByteArray) (hs : Short s) :
    Calls Tryz.prog 110 #[.string s] w fun e w' => e = .returned (.bool (nameB s)) ∧ Ext w w' := by
 unfold Short at hs
 go_enter Tryz.func110, Tryz.ntmps110
 go_wp2
 go_loopw [9] (fun _ w' => ∃ pos : Nat, w' = w.iter s pos ∧ nameFrom (pos == 0) (s.data.toList.drop pos) = nameFrom true s.data.toList) (fun _ w' => s.size - w'.iterPos w.heap.size)
 case atStart => exact ⟨0, rfl, rfl⟩
 case round =>
  obtain ⟨pos, rfl, hc⟩ := hrel
  have HC := Lib.hid hc; clear hc
  by_cases hp : pos < s.size
  · obtain ⟨n, d, hd, hd1, hn1, hn2⟩ := rune_at s pos hp
    have hnx : ∀ ty, (Instr.next (.pointer (some ⟨w.heap.size, 0, none⟩)) true ty).run Tryz.prog (w.iter s pos) = .ok (.tuple #[.bool true, .int .i64 pos, .int .i32 n]) (w.iter s (pos + d)) := fun ty => by
     rw [run_next_any w s pos ty hp, hd]
    have HB := Lib.hid (byte_at s pos hp)
    have HL := Lib.hid (letter_iff (s[pos]'hp))
    have HO := Lib.hid (other_iff (s[pos]'hp))
    obtain ⟨c, hcc⟩ : ∃ c, s[pos]'hp = c := ⟨_, rfl⟩
    rw [hcc] at hn1 hn2 HB HL HO
    have HN1 := Lib.hid hn1
    have HN2 := Lib.hid hn2
    clear hcc hd hn1 hn2
    have hcl : (65 ≤ n ∧ n ≤ 90) ∨ (97 ≤ n ∧ n ≤ 122) ∨ (48 ≤ n ∧ n ≤ 57) ∨ n = 95 ∨ n < 48 ∨ (58 ≤ n ∧ n < 65) ∨ (91 ≤ n ∧ n < 97 ∧ n ≠ 95) ∨ 123 ≤ n := by omega
    obtain ⟨N, hN⟩ : ∃ N : Int, (n : Int) = N := ⟨_, rfl⟩
    rw [hN] at hnx
    rcases hcl with hcl | hcl | hcl | hcl | hcl | hcl | hcl | hcl
    · have f0 : 65 ≤ N := by omega
      have f1 : N ≤ 90 := by omega
      have HX : Hid (letterB c = true) := by
       exact (by rw [HL.out, ← (HN1.out (by omega)).1]; simp; omega : letterB c = true)
      have HD : Hid (d = 1) := by exact (HN1.out (by omega)).2
      clear hcl hN
      go_wp2
      go_roundw
      case rel => exact ⟨pos + d, rfl, by rw [← HC.out, HB.out, HD.out]; simp [nameFrom, HX.out]⟩
      case measure => simp; omega
    · have f0 : 65 ≤ N := by omega
      have f1 : ¬ N ≤ 90 := by omega
      have f2 : 97 ≤ N := by omega
      have f3 : N ≤ 122 := by omega
      have HX : Hid (letterB c = true) := by
       exact (by rw [HL.out, ← (HN1.out (by omega)).1]; simp; omega : letterB c = true)
      have HD : Hid (d = 1) := by exact (HN1.out (by omega)).2
      clear hcl hN
      go_wp2
      go_roundw
      case rel => exact ⟨pos + d, rfl, by rw [← HC.out, HB.out, HD.out]; simp [nameFrom, HX.out]⟩
      case measure => simp; omega
    · have f0 : ¬ 65 ≤ N := by omega
      have f1 : ¬ 97 ≤ N := by omega
      have f2 : 48 ≤ N := by omega
      have f3 : N ≤ 57 := by omega
      have HX : Hid (letterB c = false ∧ otherB c = true) := by
       exact (by rw [HL.out, HO.out, ← (HN1.out (by omega)).1]; simp; omega : letterB c = false ∧ otherB c = true)
      have HD : Hid (d = 1) := by exact (HN1.out (by omega)).2
      clear hcl hN
      by_cases h0 : pos = 0
      · subst h0
        go_wp2
        go_ret
        exact ⟨ret_bool (by rw [nameB_from, ← HC.out, HB.out]; simp [nameFrom, HX.out.1]), Ext.box _ _⟩
      · have h0' : (((pos : Nat) : Int) == 0) = false := by rw [beq_eq_false_iff_ne]; omega
        have HP := Lib.hid h0; clear h0
        go_wp2
        go_roundw
        case rel => exact ⟨pos + d, rfl, by rw [← HC.out, HB.out, HD.out]; simp [nameFrom, HX.out.1, HX.out.2, HP.out]⟩
        case measure => simp; omega
    · have f0 : 65 ≤ N := by omega
      have f1 : ¬ N ≤ 90 := by omega
      have f2 : ¬ 97 ≤ N := by omega
      have f3 : 48 ≤ N := by omega
      have f4 : ¬ N ≤ 57 := by omega
      have f5 : (N == 95) = true := by rw [beq_iff_eq]; omega
      have HX : Hid (letterB c = false ∧ otherB c = true) := by
       exact (by rw [HL.out, HO.out, ← (HN1.out (by omega)).1]; simp; omega : letterB c = false ∧ otherB c = true)
      have HD : Hid (d = 1) := by exact (HN1.out (by omega)).2
      clear hcl hN
      by_cases h0 : pos = 0
      · subst h0
        go_wp2
        go_ret
        exact ⟨ret_bool (by rw [nameB_from, ← HC.out, HB.out]; simp [nameFrom, HX.out.1]), Ext.box _ _⟩
      · have h0' : (((pos : Nat) : Int) == 0) = false := by rw [beq_eq_false_iff_ne]; omega
        have HP := Lib.hid h0; clear h0
        go_wp2
        go_roundw
        case rel => exact ⟨pos + d, rfl, by rw [← HC.out, HB.out, HD.out]; simp [nameFrom, HX.out.1, HX.out.2, HP.out]⟩
        case measure => simp; omega
    · have f0 : ¬ 65 ≤ N := by omega
      have f1 : ¬ 97 ≤ N := by omega
      have f2 : ¬ 48 ≤ N := by omega
      have f3 : (N == 95) = false := by rw [beq_eq_false_iff_ne]; omega
      have HX : Hid (letterB c = false ∧ otherB c = false) := by
       exact (by
        rcases Nat.lt_or_ge n 128 with h | h
        · rw [HL.out, HO.out, ← (HN1.out h).1]; simp; omega
        · have := HN2.out h
          rw [HL.out, HO.out]; simp; omega : letterB c = false ∧ otherB c = false)
      clear hcl hN
      by_cases h0 : pos = 0
      · subst h0
        go_wp2
        go_ret
        exact ⟨ret_bool (by rw [nameB_from, ← HC.out, HB.out]; simp [nameFrom, HX.out.1]), Ext.box _ _⟩
      · have h0' : (((pos : Nat) : Int) == 0) = false := by rw [beq_eq_false_iff_ne]; omega
        have HP := Lib.hid h0; clear h0
        go_wp2
        go_ret
        exact ⟨ret_bool (by rw [nameB_from, ← HC.out, HB.out]; simp [nameFrom, HX.out.1, HX.out.2]), Ext.box _ _⟩
    · have f0 : ¬ 65 ≤ N := by omega
      have f1 : ¬ 97 ≤ N := by omega
      have f2 : 48 ≤ N := by omega
      have f3 : ¬ N ≤ 57 := by omega
      have f4 : (N == 95) = false := by rw [beq_eq_false_iff_ne]; omega
      have HX : Hid (letterB c = false ∧ otherB c = false) := by
       exact (by
        rcases Nat.lt_or_ge n 128 with h | h
        · rw [HL.out, HO.out, ← (HN1.out h).1]; simp; omega
        · have := HN2.out h
          rw [HL.out, HO.out]; simp; omega : letterB c = false ∧ otherB c = false)
      clear hcl hN
      by_cases h0 : pos = 0
      · subst h0
        go_wp2
        go_ret
        exact ⟨ret_bool (by rw [nameB_from, ← HC.out, HB.out]; simp [nameFrom, HX.out.1]), Ext.box _ _⟩
      · have h0' : (((pos : Nat) : Int) == 0) = false := by rw [beq_eq_false_iff_ne]; omega
        have HP := Lib.hid h0; clear h0
        go_wp2
        go_ret
        exact ⟨ret_bool (by rw [nameB_from, ← HC.out, HB.out]; simp [nameFrom, HX.out.1, HX.out.2]), Ext.box _ _⟩
    · have f0 : 65 ≤ N := by omega
      have f1 : ¬ N ≤ 90 := by omega
      have f2 : ¬ 97 ≤ N := by omega
      have f3 : 48 ≤ N := by omega
      have f4 : ¬ N ≤ 57 := by omega
      have f5 : (N == 95) = false := by rw [beq_eq_false_iff_ne]; omega
      have HX : Hid (letterB c = false ∧ otherB c = false) := by
       exact (by
        rcases Nat.lt_or_ge n 128 with h | h
        · rw [HL.out, HO.out, ← (HN1.out h).1]; simp; omega
        · have := HN2.out h
          rw [HL.out, HO.out]; simp; omega : letterB c = false ∧ otherB c = false)
      clear hcl hN
      by_cases h0 : pos = 0
      · subst h0
        go_wp2
        go_ret
        exact ⟨ret_bool (by rw [nameB_from, ← HC.out, HB.out]; simp [nameFrom, HX.out.1]), Ext.box _ _⟩
      · have h0' : (((pos : Nat) : Int) == 0) = false := by rw [beq_eq_false_iff_ne]; omega
        have HP := Lib.hid h0; clear h0
        go_wp2
        go_ret
        exact ⟨ret_bool (by rw [nameB_from, ← HC.out, HB.out]; simp [nameFrom, HX.out.1, HX.out.2]), Ext.box _ _⟩
    · have f0 : 65 ≤ N := by omega
      have f1 : ¬ N ≤ 90 := by omega
      have f2 : 97 ≤ N := by omega
      have f3 : ¬ N ≤ 122 := by omega
      have f4 : 48 ≤ N := by omega
      have f5 : ¬ N ≤ 57 := by omega
      have f6 : (N == 95) = false := by rw [beq_eq_false_iff_ne]; omega
      have HX : Hid (letterB c = false ∧ otherB c = false) := by
       exact (by
        rcases Nat.lt_or_ge n 128 with h | h
        · rw [HL.out, HO.out, ← (HN1.out h).1]; simp; omega
        · have := HN2.out h
          rw [HL.out, HO.out]; simp; omega : letterB c = false ∧ otherB c = false)
      clear hcl hN
      by_cases h0 : pos = 0
      · subst h0
        go_wp2
        go_ret
        exact ⟨ret_bool (by rw [nameB_from, ← HC.out, HB.out]; simp [nameFrom, HX.out.1]), Ext.box _ _⟩
      · have h0' : (((pos : Nat) : Int) == 0) = false := by rw [beq_eq_false_iff_ne]; omega
        have HP := Lib.hid h0; clear h0
        go_wp2
        go_ret
        exact ⟨ret_bool (by rw [nameB_from, ← HC.out, HB.out]; simp [nameFrom, HX.out.1, HX.out.2]), Ext.box _ _⟩
  · have hnx : ∀ ty, (Instr.next (.pointer (some ⟨w.heap.size, 0, none⟩)) true ty).run Tryz.prog (w.iter s pos) = _ := fun ty => run_next_end w s pos ty hp
    have HF : Hid (nameFrom true s.data.toList = true) := by
     exact (by rw [← HC.out, List.drop_eq_nil_of_le (by simpa using hp)]; rfl : nameFrom true s.data.toList = true)
    have hsz : s.data.toList.length = s.size := by simp
    have HS := Lib.hid hsz
    clear hsz hp
    by_cases h24 : (s.size : Int) ≤ 24
    · have H24 := Lib.hid h24
      go_wp2
      · have he : s.toList = [] := by assumption
        go_ret
        exact ⟨ret_bool (by rw [nameB_from, HF.out, nil_data he]; rfl), Ext.box _ _⟩
      · have he : ¬ s.toList = [] := by assumption
        go_ret
        exact ⟨ret_bool (by have := HS.out; have := H24.out; rw [nameB_from, HF.out, Bool.true_and, decide_eq_true (ne_data he), Bool.true_and]; rw [decide_eq_true (by omega : s.data.toList.length ≤ 24)]; simp [he]), Ext.box _ _⟩
    · have H24 := Lib.hid h24
      go_wp2
      · have he : s.toList = [] := by assumption
        go_ret
        exact ⟨ret_bool (by rw [nameB_from, HF.out, nil_data he]; rfl), Ext.box _ _⟩
      · have he : ¬ s.toList = [] := by assumption
        go_ret
        exact ⟨ret_bool (by have := HS.out; have := H24.out; rw [nameB_from, HF.out, Bool.true_and, decide_eq_true (ne_data he), Bool.true_and]; exact (decide_eq_false (by omega)).symm), Ext.box _ _⟩
end Go.Proofs
namespace Go.Proofs
open Go.RowKit Go.Tw Go.Flow
theorem pow64 {n : Nat} (h : n < 62) : wrap64 (2 ^ n) = ((2 ^ n : Nat) : Int) := by
 have h1 : (2 : Nat) ^ n < 2 ^ 62 := Nat.pow_lt_pow_right (by omega) h
 have h2 : ((2 ^ n : Nat) : Int) = 2 ^ n := by simp
 rw [← h2]
 obtain ⟨m, hm⟩ : ∃ m, 2 ^ n = m := ⟨_, rfl⟩
 rw [hm] at h1 ⊢
 unfold wrap64
 omega
theorem or_step {a n : Nat} (ha : a < 2 ^ 62) (h : n < 62) : bits .or .i64 (a : Int) (wrap64 (2 ^ n)) = ((a ||| 2 ^ n : Nat) : Int) := by
 rw [pow64 h, or64 ha (Nat.pow_lt_pow_right (by omega) h)]
set_option maxHeartbeats 400000 in
theorem mask_any (w : World) (v : Value) (l : List Int) (hv : IsInts w v l) (hb : ∀ x ∈ l, 0 ≤ x ∧ x < 62) :
    Calls Tryz.prog 76 #[v] w fun e w' => e = .returned (.int .i64 (maskOf l : Nat)) ∧ w = w' := by
 obtain ⟨A, cap, rfl, hl, hcap, hc⟩ := hv.opened
 have HB := Lib.hid hb
 clear hv hb
 go_enter Tryz.func76, Tryz.ntmps76
 go_wp2
 go_loop [3, 8] (fun o i => ∃ (k a : Nat), k ≤ l.length ∧ i = .int .i64 k ∧ o = .int .i64 a ∧ a < 2 ^ 62 ∧ orBits a (l.drop k) = maskOf l) (fun _ i => l.length - (intOf i).toNat)
 case atStart => exact ⟨0, 0, Nat.zero_le _, rfl, rfl, by decide, rfl⟩
 case round =>
  obtain ⟨k, a, hk, rfl, rfl, ha, hr⟩ := hrel
  have HR := Lib.hid hr; clear hr
  by_cases hlt : k < l.length
  · obtain ⟨b, off, rfl, hcell⟩ := hc k hlt
    have hb := HB.out (ix l k) (by rw [ix_eq hlt]; exact List.getElem_mem hlt)
    obtain ⟨n, hn⟩ : ∃ n : Nat, ix l k = (n : Int) := ⟨(ix l k).toNat, by omega⟩
    have HN := Lib.hid hn
    rw [hn] at hcell
    have hn2 : n < 62 := by omega
    have HA := Lib.hid ha
    clear hc hb hn ha
    go_wp2
    go_round
    case rel => exact ⟨k + 1, a ||| 2 ^ n, by omega, by go_num, by rw [or_step HA.out hn2], Nat.or_lt_two_pow HA.out (Nat.pow_lt_pow_right (by omega) hn2), by rw [← HR.out, drop_ix hlt, orBits_cons, HN.out]; rfl⟩
    case measure => simp [intOf]; omega
  · clear hc
    go_wp2
    go_ret
    exact ⟨ret_int (by rw [← HR.out, List.drop_eq_nil_of_le (by omega)]; rfl), rfl⟩
/-- -1, 0 or 1, as slices.Compare and cmp.Compare have it. -/
def cmpI (x y : Int) : Int := if x < y then -1 else if y < x then 1 else 0
def cmpL : List Int → List Int → Int
 | [], [] => 0
 | [], _ :: _ => -1
 | _ :: _, [] => 1
 | x :: l, y :: m => if x = y then cmpL l m else cmpI x y
def setCmp (a b : List Int) : Int := if a.length = b.length then cmpL a b else (a.length : Int) - b.length
theorem cmpL_step {a b : List Int} {k : Nat} (ha : k < a.length) (hb : k < b.length) : cmpL (a.drop k) (b.drop k) = if ix a k = ix b k then cmpL (a.drop (k + 1)) (b.drop (k + 1)) else cmpI (ix a k) (ix b k) := by
 rw [drop_ix ha, drop_ix hb]; rfl
theorem cmpInt_any (w : World) (x y : Int) :
    Calls Tryz.prog 169 #[.int .i64 x, .int .i64 y] w fun e w' => e = .returned (.int .i64 (cmpI x y)) ∧ w = w' := by
 unfold cmpI
 by_cases h1 : x < y
 · rw [if_pos h1]
   go_enter Tryz.func169, Tryz.ntmps169
   go_wp2
   go_ret
   exact ⟨rfl, rfl⟩
 · by_cases h2 : y < x
   · rw [if_neg h1, if_pos h2]
     go_enter Tryz.func169, Tryz.ntmps169
     go_wp2
     go_ret
     exact ⟨rfl, rfl⟩
   · rw [if_neg h1, if_neg h2]
     go_enter Tryz.func169, Tryz.ntmps169
     go_wp2
     go_ret
     exact ⟨rfl, rfl⟩
set_option maxHeartbeats 800000 in
theorem Compare_any (w : World) (u v : Value) (a b : List Int) (hu : IsInts w u a) (hv : IsInts w v b) (hab : a.length = b.length) :
    Calls Tryz.prog 150 #[u, v] w fun e w' => e = .returned (.int .i64 (cmpL a b)) ∧ w = w' := by
 obtain ⟨A, ca, rfl, hla, hcapa, hca⟩ := hu.opened
 obtain ⟨B, cb, rfl, hlb, hcapb, hcb⟩ := hv.opened
 clear hu hv
 obtain ⟨m, hma⟩ : ∃ m, a.length = m := ⟨_, rfl⟩
 have hmb : b.length = m := by omega
 rw [hma] at hla hcapa hca ⊢
 rw [hmb] at hlb hcapb hcb ⊢
 have HMA := Lib.hid hma
 have HMB := Lib.hid hmb
 clear hab hma hmb
 go_enter Tryz.func150, Tryz.ntmps150
 go_wp2
 go_loop [11] (fun i => ∃ k : Nat, k ≤ m ∧ i = .int .i64 k ∧ cmpL (a.drop k) (b.drop k) = cmpL a b) (fun i => m - (intOf i).toNat)
 case atStart => exact ⟨0, Nat.zero_le _, rfl, rfl⟩
 case round =>
  obtain ⟨k, hk, rfl, hr⟩ := hrel
  have HR := Lib.hid hr; clear hr
  by_cases hlt : k < m
  · skip
    obtain ⟨b1, off1, rfl, hc1⟩ := hca k hlt
    obtain ⟨b2, off2, rfl, hc2⟩ := hcb k hlt
    clear hca hcb
    have HS := Lib.hid (cmpL_step (a := a) (b := b) (k := k) (by rw [HMA.out]; exact hlt) (by rw [HMB.out]; exact hlt))
    obtain ⟨x, hx⟩ : ∃ x, ix a k = x := ⟨_, rfl⟩
    obtain ⟨y, hy⟩ : ∃ y, ix b k = y := ⟨_, rfl⟩
    rw [hx, hy] at HS
    rw [hx] at hc1
    rw [hy] at hc2
    clear hx hy
    by_cases he : x = y
    · have hz : (cmpI x y != 0) = false := by unfold cmpI; subst he; simp
      have HE := Lib.hid he; clear he
      go_wp2_with (go_at_call 169; refine (cmpInt_any _ _ _).mono ?_; rintro e w' ⟨rfl, rfl⟩)
      go_round
      case rel => exact ⟨k + 1, by omega, by go_num, by rw [← HR.out, HS.out, if_pos HE.out]⟩
      case measure => simp [intOf]; omega
    · have hz : (cmpI x y != 0) = true := by
       unfold cmpI
       rcases Int.lt_or_gt_of_ne he with h | h
       · rw [if_pos h]; rfl
       · rw [if_neg (by omega), if_pos h]; rfl
      have HE := Lib.hid he; clear he
      go_wp2_with (go_at_call 169; refine (cmpInt_any _ _ _).mono ?_; rintro e w' ⟨rfl, rfl⟩)
      go_ret
      exact ⟨ret_int (by rw [← HR.out, HS.out, if_neg HE.out]), rfl⟩
  · clear hca hcb
    go_wp2
    go_ret
    exact ⟨ret_int (by rw [← HR.out, List.drop_eq_nil_of_le (by rw [HMA.out]; omega), List.drop_eq_nil_of_le (by rw [HMB.out]; omega)]; rfl), rfl⟩
set_option maxHeartbeats 400000 in
theorem compare_any (w : World) (u v : Value) (a b : List Int) (hu : IsInts w u a) (hv : IsInts w v b) :
    Calls Tryz.prog 124 #[u, v] w fun e w' => e = .returned (.int .i64 (setCmp a b)) ∧ w = w' := by
 have HU := Lib.hid hu
 have HV := Lib.hid hv
 obtain ⟨A, ca, rfl, hla, hcapa, hca⟩ := hu.opened
 obtain ⟨B, cb, rfl, hlb, hcapb, hcb⟩ := hv.opened
 clear hu hv hca hcb
 unfold setCmp
 by_cases hab : a.length = b.length
 · rw [if_pos hab]
   have HAB := Lib.hid hab
   have hne : (((a.length : Nat) : Int) != ((b.length : Nat) : Int)) = false := by simp [hab]
   clear hab
   go_enter Tryz.func124, Tryz.ntmps124
   go_wp2_with (go_at_call 150; refine (Compare_any _ _ _ a b HU.out HV.out HAB.out).mono ?_; rintro e w' ⟨rfl, rfl⟩)
   go_ret
   exact ⟨rfl, rfl⟩
 · rw [if_neg hab]
   have hne : (((a.length : Nat) : Int) != ((b.length : Nat) : Int)) = true := by simp; omega
   clear hab
   go_enter Tryz.func124, Tryz.ntmps124
   go_wp2
   go_ret
   exact ⟨rfl, rfl⟩
end Go.Proofs
