/- Contracts of the laws' own small functions: number, ratio, event. What the claims of this seat's laws have in common. -/
import Derived.Test.YthfanledageoeaaGreatDoorCb48
import Derived.Test.YthfanledageoeaaGreatDoorCb21
import Derived.Test.YthfanledageoeaaGreatDoorCb49
import Derived.Test.YthfanledageoeaaGreatDoorCb46
import Derived.Test.YthfanledageoeaaGreatDoorCb47
set_option linter.unusedVariables false
set_option linter.unusedSimpArgs false
set_option linter.constructorNameAsVariable false
namespace Go.Proofs
open Go.RowKit Go.Tw Go.Flow
attribute [local go_sem ↓] run_eql_ratI
theorem number_ok (w : World) (bad x want : Int) (h0 : bad = 0 → x = want) (h1 : bad ≠ 0 → x = 0) :
    Calls Tryz.prog 41 #[.int .i64 x, .int .i64 bad, .int .i64 bad, .int .i64 want] w fun e w' => e = .returned (.bool true) ∧ Ext w w' := by
 by_cases hb : bad = 0
 · subst hb
   obtain rfl := h0 rfl
   have hx : (x == x) = true := by simp
   clear h0 h1
   go_enter Tryz.func41, Tryz.ntmps41
   go_wp2
   go_ret
   exact ⟨rfl, Ext.refl _⟩
 · obtain rfl := h1 hb
   have e1 : (bad == bad) = true := by simp
   have e2 : (bad == 0) = false := by simp [hb]
   have e3 : (bad != 0) = true := by simp [hb]
   clear h0 h1 hb
   go_enter Tryz.func41, Tryz.ntmps41
   go_wp2
   go_ret
   exact ⟨rfl, Ext.refl _⟩
theorem nil_bools (w : World) : IsBools w (.slice none 0 0) [] := Go.Tw.Rows.nil _ _ _
set_option maxHeartbeats 400000 in
theorem ratio_ok (w : World) (bad a b c d : Int) (h0 : bad = 0 → a = c ∧ b = d) (h1 : bad ≠ 0 → a = 0 ∧ b = 0) :
    Calls Tryz.prog 33 #[.agg #[.int .i64 a, .int .i64 b], .int .i64 bad, .int .i64 bad, .agg #[.int .i64 c, .int .i64 d]] w fun e w' => e = .returned (.bool true) ∧ Ext w w' := by
 have hx1 := Ext.box w (.cells #[.int .i64 a, .int .i64 b] 56)
 have hx2 := Ext.box (w.alloc (.cells #[.int .i64 a, .int .i64 b] 56)) (.cells #[.int .i64 c, .int .i64 d] 56)
 have HXX := Lib.hid (hx1.trans hx2)
 clear hx1 hx2
 by_cases hb : bad = 0
 · subst hb
   obtain ⟨rfl, rfl⟩ := h0 rfl
   have e1 : (a == a) = true := by simp
   have e2 : (b == b) = true := by simp
   clear h0 h1
   go_enter Tryz.func33, Tryz.ntmps33
   go_wp2
   go_ret
   exact ⟨rfl, HXX.out⟩
 · obtain ⟨rfl, rfl⟩ := h1 hb
   have e1 : (bad == bad) = true := by simp
   have e2 : (bad == 0) = false := by simp [hb]
   have e3 : (bad != 0) = true := by simp [hb]
   clear h0 h1 hb
   go_enter Tryz.func33, Tryz.ntmps33
   go_wp2
   go_ret
   exact ⟨rfl, HXX.out⟩
end Go.Proofs
namespace Go.Proofs
/-- awake_any short_any own_any few rCheckTree_any tab_of_laid tree_of_trod ints_of_trod intss_of_trod fits_each number_ok ratio_ok nil_bools lints_any laidOut own laidL nil_ints chance_any Size_any name_any First_any HasInt_any CheckRange_any checkSet_any Fails_any States_any Members_any power_any remove_any -/
theorem base_all : True := trivial
end Go.Proofs
