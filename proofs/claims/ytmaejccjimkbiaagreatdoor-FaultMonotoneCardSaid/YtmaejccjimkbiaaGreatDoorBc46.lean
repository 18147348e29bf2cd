/- Setting one event's chance: the weight with it sure is not less than with it out; the share of an event. Plain lists and sums. Minimal sets of a monotone property: each set that has it contains a minimal one, no minimal one contains another one; what this says about the cuts and paths of a tree. Plain law for FaultMonotone. Contracts of the law's own functions: within, valid. What the claims of this seat's laws have in common. -/
import Derived.Test.YtmaejccjimkbiaaGreatDoorBc17
import Derived.Test.YtmaejccjimkbiaaGreatDoorBc25
import Derived.Test.YtmaejccjimkbiaaGreatDoorBc21
import Derived.Test.YtmaejccjimkbiaaGreatDoorBc42
import Derived.Test.YtmaejccjimkbiaaGreatDoorBc31
import Derived.Test.YtmaejccjimkbiaaGreatDoorBc18
import Derived.Test.YtmaejccjimkbiaaGreatDoorBc45
import Derived.Test.YtmaejccjimkbiaaGreatDoorBc43
set_option linter.unusedVariables false
set_option linter.unusedSimpArgs false
set_option linter.constructorNameAsVariable false
namespace Go.Proofs
open Go.Tw
def LeB (l m:List Bool):Prop:=l.length = m.length ∧ ∀ i,bx l i = true → bx m i = true
theorem LeB.failing {l m:List Bool} (h:LeB l m) (inputs:List Int):failing l inputs ≤ failing m inputs:=by
 unfold Tw.failing
 exact List.countP_mono_left fun x _ hx=>h.2 _ hx
end Go.Proofs
namespace Go.Proofs
open Go.Tw
def SubB (a b:Nat):Prop:=∀ i,a.testBit i = true → b.testBit i = true
theorem SubB.refl (a:Nat):SubB a a:=fun _ h=>h
theorem SubB.trans {a b c:Nat} (h:SubB a b) (k:SubB b c):SubB a c:=fun i hi=>k i (h i hi)
theorem SubB.clear (a b:Nat):SubB (clearB a b) a:=fun i hi=>by rw [clearB_bit,Bool.and_eq_true] at hi; exact hi.1
end Go.Proofs
namespace Go.Proofs
open Go.RowKit Go.Tw Go.Flow
def ValidPost (t:Tree) (n:Nat) (w:World) (e:Ending) (w':World):Prop:=∃ q,e = .returned (.bool q) ∧ (q = true → t.err = 0 ∧ Fits t n ∧ t.size ≤ n) ∧ Ext w w' ∧ (q = false → ¬ (t.err = 0 ∧ Good t n))
theorem valid_post {t:Tree} {n:Nat} {w w':World} {e:Ending} (q:Bool) (he:e = .returned (.bool q)) (hf:q = true → t.err = 0 ∧ Fits t n ∧ t.size ≤ n) (hx:Ext w w') (hg:q = false → ¬ (t.err = 0 ∧ Good t n)):ValidPost t n w e w':=⟨q,he,hf,hx,hg⟩
theorem fits_size {t:Tree} {n:Nat} (h:Fits t n) (he:t.err = 0):t.size ≤ n:=by
 rcases h.s with h | h
 · exact h
 · exact absurd he h
set_option maxHeartbeats 1000000 in
theorem lvalid_any (w:World) (v:Value) (t:Tree) (n:Nat) (ht:IsTree w v t) (hn:n ≤ 1000) :
    Calls Tryz.prog 12 #[v,.int .i64 n] w fun e w'=>ValidPost t n w e w':=by
 obtain ⟨a,b,c,rfl,h3⟩:=ht
 obtain ⟨A,capa,rfl,hl1,hcap1,_⟩:=h3.basics.opened
 obtain ⟨B,capb,rfl,hl2,hcap2,_⟩:=h3.causes.opened
 obtain ⟨G,capg,rfl,hl3,hcap3,_⟩:=h3.gates.opened
 have HT0:=Lib.hid h3
 clear h3
 go_enter Tryz.func12,Tryz.ntmps12
 go_wp2_with fail
 change Calls _ _ _ (w.alloc (.cells #[.slice A t.basics.length capa,.slice B t.causes.length capb,.slice G t.gates.length capg] 26)) _
 have k0:=Blk.made w 26 #[.slice A t.basics.length capa,.slice B t.causes.length capb,.slice G t.gates.length capg]
 have x0:=Ext.box w (.cells #[.slice A t.basics.length capa,.slice B t.causes.length capb,.slice G t.gates.length capg] 26)
 have es0:(w.alloc (.cells #[.slice A t.basics.length capa,.slice B t.causes.length capb,.slice G t.gates.length capg] 26)).heap.size = w.heap.size + 1:=by simp
 obtain ⟨X0,hX0⟩:∃ X,w.alloc (.cells #[.slice A t.basics.length capa,.slice B t.causes.length capb,.slice G t.gates.length capg] 26) = X:=⟨_,rfl⟩
 rw [hX0] at k0 x0 es0 ⊢
 clear hX0
 have e0:X0.heap.size = w.heap.size + 1:=by omega
 have HXW:Hid (Ext w X0):=by exact (x0:Ext w X0)
 have eW:X0.heap.size = w.heap.size + 1:=e0
 clear x0 es0 e0
 obtain ⟨W,hWW⟩:∃ W,X0 = W:=⟨_,rfl⟩
 rw [hWW] at HXW eW ⊢ k0
 clear hWW
 have HT:=Lib.hid (HT0.out.ext HXW.out)
 refine (short_all _ _ t n ⟨_,_,_,rfl,HT.out⟩ hn).mono ?_
 rintro e w1 ⟨q,rfl,hq,hx1,hg⟩
 have kt:=k0.ext hx1
 have c0:=kt.cell 0
 have c1:=kt.cell 1
 have c2:=kt.cell 2
 simp only [List.getElem?_toArray,List.getElem?_cons_zero,List.getElem?_cons_succ] at c0 c1 c2
 have HX1:=Lib.hid hx1
 clear kt k0 hx1
 cases q with
 | false =>
   have HG:=Lib.hid (hg rfl)
   clear hq hg
   clear c0 c1 c2
   go_wp2
   go_ret
   exact valid_post false rfl (fun h=>by cases h) (HXW.out.trans HX1.out) (fun _ h=>HG.out h.2)
 | true =>
   have HQ:=Lib.hid (hq rfl)
   clear hq hg
   go_wp2_with fail
   refine (rCheckTree_any _ _ t ⟨_,_,_,rfl,HT.out.ext HX1.out⟩).mono ?_
   rintro e w2 ⟨rfl,hx2⟩
   have HX2:=Lib.hid (HXW.out.trans (HX1.out.trans hx2))
   obtain ⟨E,hE⟩:∃ E,t.err = E:=⟨_,rfl⟩
   rw [hE]
   have HE:=Lib.hid hE
   obtain ⟨p,hp⟩:∃ p,(E == 0) = p:=⟨_,rfl⟩
   have HP:=Lib.hid hp
   clear hE hx2 c0 c1 c2
   go_wp2
   go_ret
   refine valid_post p rfl (fun h=>?_) HX2.out (fun h hh=>?_)
   · have h1:=HP.out
     rw [h,beq_iff_eq] at h1
     have h2:t.err = 0:=HE.out.trans h1
     exact ⟨h2,HQ.out,fits_size HQ.out h2⟩
   · have h1:=HP.out
     rw [h,beq_eq_false_iff_ne] at h1
     exact h1 (HE.out.symm.trans hh.1)
end Go.Proofs
namespace Go.Proofs
theorem base_all:True:=trivial
end Go.Proofs
