/- What the functions of chapter 7 come to, in plain lists and numbers: no program is in sight here. Contracts of small functions of the references. Contracts: sizes, names and chances of events; powers; sets as bits. -/
import Derived.Test.YtmaejccjimkbiaaGreatDoorBc01
import Derived.Test.YtmaejccjimkbiaaGreatDoorProg
import Derived.Deep.QuietTactic
import Derived.BigQuiet
set_option linter.unusedVariables false
set_option linter.unusedSimpArgs false
set_option linter.constructorNameAsVariable false
namespace Go.Tw
def firstErr:List Int → Int
 | []=>0
 | x :: l=>if x = 0 then firstErr l else x
def rangeErr (x a b:Int):Int:=if x < a ∨ b < x then 3 else 0
def ascB:List Int → Bool
 | x :: y :: l=>decide (x < y) && ascB (y :: l)
 | _=>true
def outB (l:List Int) (n:Int):Bool:=l.any fun x=>decide (x < 0 ∨ n ≤ x)
def setErr (l:List Int) (n:Int):Int:=if outB l n then 10 else if ascB l then 0 else 11
def listErr (l:List Int) (n:Int):Int:=if l = [] then 12 else setErr l n
def letterB (c:UInt8):Bool:=(decide (97 ≤ c) && decide (c ≤ 122)) || (decide (65 ≤ c) && decide (c ≤ 90))
def otherB (c:UInt8):Bool:=c == 95 || (decide (48 ≤ c) && decide (c ≤ 57))
def nameB (s:ByteArray):Bool:=match s.data.toList with
 | []=>false
 | c :: l=>letterB c && l.all (fun c=>letterB c || otherB c) && decide (l.length < 24)
def nameErr (s:ByteArray):Int:=if nameB s then 0 else 8
def sAnd:ByteArray:=⟨#[97,110,100]⟩
def sOr:ByteArray:=⟨#[111,114]⟩
def sVote:ByteArray:=⟨#[118,111,116,101]⟩
namespace Tree
def size (t:Tree):Nat:=t.basics.length + t.causes.length
def nodes (t:Tree):Nat:=t.basics.length + t.gates.length
def nameAt (t:Tree) (i:Nat):ByteArray:=if i < t.basics.length then bName t.basics i else cName t.causes (i - t.basics.length)
def chanceAt (t:Tree) (i:Nat):Int:=if i < t.basics.length then bChance t.basics i else cChance t.causes (i - t.basics.length)
def twiceB (t:Tree) (i:Nat):Bool:=(List.range i).any fun k=>t.nameAt k == t.nameAt i
def eventErr (t:Tree) (i:Nat):Int :=
 firstErr [nameErr (t.nameAt i),rangeErr (t.chanceAt i) 0 16,if t.twiceB i then 9 else 0,if i < t.basics.length then 0 else listErr (cMembers t.causes (i - t.basics.length)) t.basics.length]
end Tree
def kindB (s:ByteArray):Bool:=s == sAnd || s == sOr || s == sVote
def needErr (kind:ByteArray) (need:Int) (n:Nat):Int:=if kind = sVote then rangeErr need 1 n else rangeErr need 0 0
def gateErr (kind:ByteArray) (need:Int) (inputs:List Int) (nodes:Int):Int :=
 firstErr [if kindB kind then 0 else 13,if 12 < inputs.length then 5 else 0,listErr inputs nodes,needErr kind need inputs.length]
namespace Tree
def gateErrAt (t:Tree) (i:Nat):Int:=gateErr (gKind t.gates i) (gNeed t.gates i) (gInputs t.gates i) ((t.basics.length:Int) + i)
def err (t:Tree):Int :=
 if t.basics.length = 0 ∨ t.gates.length = 0 then 12 else if 12 < t.size ∨ 32 < t.gates.length then 5 else
 firstErr ((List.range t.size).map t.eventErr ++ (List.range t.gates.length).map t.gateErrAt)
def basicB (t:Tree) (ev:Nat → Bool) (i:Nat):Bool:=ev i || (List.range t.causes.length).any fun k=>ev (t.basics.length + k) && has (cMembers t.causes k) i
end Tree
def needOf (kind:ByteArray) (need:Int) (n:Nat):Int:=if kind = sAnd then n else if kind = sOr then 1 else need
def failing (out:List Bool) (inputs:List Int):Nat:=inputs.countP fun x=>bx out x.toNat
def gateB (out:List Bool) (kind:ByteArray) (need:Int) (inputs:List Int):Bool:=decide (needOf kind need inputs.length ≤ failing out inputs)
namespace Tree
def basicsB (t:Tree) (ev:Nat → Bool):List Bool:=(List.range t.basics.length).map (t.basicB ev)
def gatesB (t:Tree) (ev:Nat → Bool):Nat → List Bool
 | 0=>t.basicsB ev
 | n + 1=>t.gatesB ev n ++ [gateB (t.gatesB ev n) (gKind t.gates n) (gNeed t.gates n) (gInputs t.gates n)]
def states (t:Tree) (ev:Nat → Bool):List Bool:=t.gatesB ev t.gates.length
def fails (t:Tree) (ev:Nat → Bool):Bool:=bx (t.states ev) (t.nodes - 1)
end Tree
def evL (l:List Int) (i:Nat):Bool:=has l i
def evN (s:Nat) (i:Nat):Bool:=s.testBit i
def bitsOf (s:Nat):List Int:=((List.range 16).filter (s.testBit ·)).map Int.ofNat
def others (n:Nat) (l:List Int):List Int:=((List.range n).map Int.ofNat).filter fun x=>!has l x
def without (l:List Int) (k:Nat):List Int:=l.take k ++ l.drop (k + 1)
namespace Tree
def chances (t:Tree):List Int:=(List.range t.size).map t.chanceAt
def setB (t:Tree) (l:List Int) (paths:Bool):Bool:=if paths then !t.fails (evL (others t.size l)) else t.fails (evL l)
def minimalB (t:Tree) (l:List Int) (paths:Bool):Bool:=t.setB l paths && !(List.range l.length).any fun k=>t.setB (without l k) paths
end Tree
def lessB:List Int → List Int → Bool
 | x :: l,y :: m=>if x = y then lessB l m else decide (x < y)
 | _,_=>false
def beforeB (a b:List Int):Bool:=if a.length = b.length then lessB a b else decide (a.length < b.length)
def posBack (l:List Int) (out:List (List Int)):Nat → Nat
 | 0=>0
 | n + 1=>if beforeB l (out.getD n []) then posBack l out n else n + 1
def insertBack (l:List Int) (out:List (List Int)):List (List Int):=out.take (posBack l out out.length) ++ [l] ++ out.drop (posBack l out out.length)
namespace Tree
def sets (t:Tree) (paths:Bool):List (List Int):=(List.range (2 ^ t.size)).foldl (fun out s=>if t.minimalB (bitsOf s) paths then insertBack (bitsOf s) out else out) []
def single (t:Tree):List Int:=((List.range t.size).map Int.ofNat).filter fun x=>t.fails (evL [x])
end Tree
namespace Tree
end Tree
def setsErr (n:Nat) (l:List (List Int)):Int:=if 1024 < l.length then 5 else firstErr (l.map fun x=>setErr x n)
def factor (c:List Int) (s j:Nat):Int:=if s.testBit j then ix c j else 16 - ix c j
def partTo (c:List Int) (s:Nat):Nat → Int
 | 0=>1
 | j + 1=>partTo c s j * factor c s j
def partOf (c:List Int) (s:Nat):Int:=partTo c s c.length
namespace Tree
def weightTo (t:Tree) (c:List Int):Nat → Int
 | 0=>0
 | s + 1=>t.weightTo c s + if t.fails (evN s) then partOf c s else 0
def weight (t:Tree) (c:List Int):Int:=t.weightTo c (2 ^ t.size)
end Tree
structure Ratio where
 num:Int
 den:Int
deriving DecidableEq
def lowest (a b:Int):Ratio:=⟨a / (Int.gcd a b:Int),b / (Int.gcd a b:Int)⟩
def withEv (c:List Int) (l:List Int) (n:Int):List Int:=(List.range c.length).map fun (i:Nat)=>if has l i then n else ix c i
end Go.Tw
namespace Go.Proofs
open Go.RowKit Go.Tw
theorem Tryz.info3:(Tryz.prog.info? 3).map (fun i=>(i.zero,i.size,i.bytes)) = some (some (.int .i64 0),1,8):=by kernel_rfl
set_option maxHeartbeats 400000 in
theorem First_any (w:World) (v:Value) (l:List Int) (hv:IsInts w v l) :
    Calls Tryz.prog 37 #[v] w fun e w'=>e = .returned (.int .i64 (firstErr l)) ∧ w = w':=by
 obtain ⟨A,cap,rfl,hl,hcap,hc⟩:=hv.opened
 clear hv
 go_enter Tryz.func37,Tryz.ntmps37
 go_wp2
 go_loop [3] (fun i=>∃ k:Nat,k ≤ l.length ∧ i = .int .i64 k ∧ firstErr (l.drop k) = firstErr l) (fun i=>l.length - (intOf i).toNat)
 case atStart=>exact ⟨0,Nat.zero_le _,rfl,rfl⟩
 case round =>
  obtain ⟨k,hk,rfl,hr⟩:=hrel
  have HR:=Lib.hid hr; clear hr
  by_cases hlt:k < l.length
  · obtain ⟨b,off,rfl,hcell⟩:=hc k hlt
    clear hc
    by_cases hx:ix l k = 0
    · have HX:=Lib.hid hx
      have hx1:(ix l k != 0) = false:=by simp [hx]
      clear hx
      go_wp2
      go_round
      case rel=>exact ⟨k + 1,by omega,by go_num,by rw [← HR.out,drop_ix hlt,firstErr,if_pos HX.out]⟩
      case measure=>simp [intOf]; omega
    · have hx1:(ix l k != 0) = true:=by simp [hx]
      have HX:=Lib.hid hx; clear hx
      go_wp2
      go_ret
      exact ⟨ret_int (by rw [← HR.out,drop_ix hlt,firstErr,if_neg HX.out]),rfl⟩
  · clear hc
    go_wp2
    go_ret
    exact ⟨ret_int (by rw [← HR.out,List.drop_eq_nil_of_le (by omega)]; rfl),rfl⟩
set_option maxHeartbeats 400000 in
theorem HasInt_any (w:World) (v:Value) (l:List Int) (x:Int) (hv:IsInts w v l) :
    Calls Tryz.prog 19 #[v,.int .i64 x] w fun e w'=>e = .returned (.bool (has l x)) ∧ w = w':=by
 obtain ⟨A,cap,rfl,hl,hcap,hc⟩:=hv.opened
 clear hv
 go_enter Tryz.func19,Tryz.ntmps19
 go_wp2
 go_loop [5] (fun i=>∃ k:Nat,k ≤ l.length ∧ i = .int .i64 k ∧ has (l.drop k) x = has l x) (fun i=>l.length - (intOf i).toNat)
 case atStart=>exact ⟨0,Nat.zero_le _,rfl,rfl⟩
 case round =>
  obtain ⟨k,hk,rfl,hr⟩:=hrel
  have HR:=Lib.hid hr; clear hr
  by_cases hlt:k < l.length
  · obtain ⟨b,off,rfl,hcell⟩:=hc k hlt
    clear hc
    by_cases hx:ix l k = x
    · have HX:=Lib.hid hx
      have hx1:(ix l k == x) = true:=by simp [hx]
      clear hx
      go_wp2
      go_ret
      exact ⟨ret_bool (by rw [← HR.out,drop_ix hlt,has_cons,HX.out]; simp),rfl⟩
    · have hx1:(ix l k == x) = false:=by simp [hx]
      have HX:=Lib.hid hx; clear hx
      go_wp2
      go_round
      case rel=>exact ⟨k + 1,by omega,by go_num,by rw [← HR.out,drop_ix hlt,has_cons,beq_false_of_ne HX.out,Bool.false_or]⟩
      case measure=>simp [intOf]; omega
  · clear hc
    go_wp2
    go_ret
    exact ⟨ret_bool (by rw [← HR.out,List.drop_eq_nil_of_le (by omega)]; rfl),rfl⟩
theorem CheckRange_any (w:World) (x a b:Int) :
    Calls Tryz.prog 39 #[.int .i64 x,.int .i64 a,.int .i64 b] w fun e w'=>e = .returned (.int .i64 (rangeErr x a b)) ∧ w = w':=by
 unfold rangeErr
 by_cases h1:x < a
 · rw [if_pos (.inl h1)]
   go_enter Tryz.func39,Tryz.ntmps39
   go_wp2
   go_ret
   exact ⟨rfl,rfl⟩
 · by_cases h2:b < x
   · rw [if_pos (.inr h2)]
     go_enter Tryz.func39,Tryz.ntmps39
     go_wp2
     go_ret
     exact ⟨rfl,rfl⟩
   · rw [if_neg (by omega)]
     go_enter Tryz.func39,Tryz.ntmps39
     go_wp2
     go_ret
     exact ⟨rfl,rfl⟩
end Go.Proofs
namespace Go.Proofs
open Go.RowKit Go.Tw
theorem Size_any (w:World) (v:Value) (t:Tree) (ht:IsTree w v t) :
    Calls Tryz.prog 20 #[v] w fun e w'=>e = .returned (.int .i64 t.size) ∧ Ext w w':=by
 obtain ⟨a,b,c,rfl,h3⟩:=ht
 obtain ⟨A,cap,rfl,hl,hcap,hc⟩:=h3.basics.opened
 obtain ⟨A',cap',rfl,hl',hcap',hc'⟩:=h3.causes.opened
 clear h3 hc hc'
 go_enter Tryz.func20,Tryz.ntmps20
 go_wp2
 go_ret
 exact ⟨ret_int (by unfold Tree.size; omega),(Ext.refl _).alloc _⟩
set_option maxHeartbeats 400000 in
theorem name_any (w:World) (v:Value) (t:Tree) (k:Nat) (ht:IsTree w v t) (hk:k < t.size) :
    Calls Tryz.prog 87 #[v,.int .i64 k] w fun e w'=>e = .returned (.string (t.nameAt k)) ∧ Ext w w':=by
 unfold Tree.size at hk
 obtain ⟨a,b,c,rfl,h3⟩:=ht
 obtain ⟨A,cap,rfl,hl,hcap,hc⟩:=h3.basics.opened
 obtain ⟨A',cap',rfl,hl',hcap',hc'⟩:=h3.causes.opened
 clear h3
 by_cases hlt:k < t.basics.length
 · obtain ⟨b,off,rfl,hb,h0,h1,h2⟩:=hc k hlt
   clear hc hc' h2
   go_enter Tryz.func87,Tryz.ntmps87
   go_wp2
   go_ret
   exact ⟨ret_str (by unfold Tree.nameAt; rw [if_pos hlt]),(Ext.refl _).alloc _⟩
 · obtain ⟨j,rfl⟩:∃ j,k = t.basics.length + j:=⟨k - t.basics.length,by omega⟩
   obtain ⟨b,off,m,rfl,hb,h0,h1,h2,h3⟩:=hc' j (by omega)
   clear hc hc' h2
   go_enter Tryz.func87,Tryz.ntmps87
   go_wp2
   go_ret
   exact ⟨ret_str (by unfold Tree.nameAt; rw [if_neg hlt,Nat.add_sub_cancel_left]),(Ext.refl _).alloc _⟩
set_option maxHeartbeats 400000 in
theorem chance_any (w:World) (v:Value) (t:Tree) (k:Nat) (ht:IsTree w v t) (hk:k < t.size) :
    Calls Tryz.prog 92 #[v,.int .i64 k] w fun e w'=>e = .returned (.int .i64 (t.chanceAt k)) ∧ Ext w w':=by
 unfold Tree.size at hk
 obtain ⟨a,b,c,rfl,h3⟩:=ht
 obtain ⟨A,cap,rfl,hl,hcap,hc⟩:=h3.basics.opened
 obtain ⟨A',cap',rfl,hl',hcap',hc'⟩:=h3.causes.opened
 clear h3
 by_cases hlt:k < t.basics.length
 · obtain ⟨b,off,rfl,hb,h0,h1,h2⟩:=hc k hlt
   clear hc hc' h2
   go_enter Tryz.func92,Tryz.ntmps92
   go_wp2
   go_ret
   exact ⟨ret_int (by unfold Tree.chanceAt; rw [if_pos hlt]),(Ext.refl _).alloc _⟩
 · obtain ⟨j,rfl⟩:∃ j,k = t.basics.length + j:=⟨k - t.basics.length,by omega⟩
   obtain ⟨b,off,m,rfl,hb,h0,h1,h2,h3⟩:=hc' j (by omega)
   clear hc hc' h2
   go_enter Tryz.func92,Tryz.ntmps92
   go_wp2
   go_ret
   exact ⟨ret_int (by unfold Tree.chanceAt; rw [if_neg hlt,Nat.add_sub_cancel_left]),(Ext.refl _).alloc _⟩
def powN (a n:Nat):Nat:=a ^ n
theorem bits_step (s i:Nat):(s / 2 ^ i) / 2 = s / 2 ^ (i + 1):=by rw [Nat.div_div_eq_div_mul,Nat.pow_succ]
theorem bit_at (s i:Nat):s.testBit i = decide ((s / 2 ^ i) % 2 = 1):=by rw [Nat.testBit_eq_decide_div_mod_eq]
def bitsTo (s i:Nat):List Int:=((List.range i).filter (s.testBit ·)).map Int.ofNat
theorem bitsTo_succ (s i:Nat):bitsTo s (i + 1) = bitsTo s i ++ if s.testBit i then [(i:Int)] else []:=by
 unfold bitsTo
 rw [List.range_succ,List.filter_append,List.map_append]
 cases h:s.testBit i <;> simp [h]
theorem bitsTo_len (s i:Nat):(bitsTo s i).length ≤ i:=by
 unfold bitsTo; rw [List.length_map]; exact Nat.le_trans (List.length_filter_le _ _) (by simp)
theorem bitsTo_end (s i:Nat) (h:s < 2 ^ i) (hi:i ≤ 16):bitsTo s i = bitsOf s:=by
 have:∀ k,i ≤ k → bitsTo s k = bitsTo s i:=by
  intro k hk
  induction k with
  | zero=>rw [show i = 0 from by omega]
  | succ k ih =>
    by_cases hik:i = k + 1
    · rw [hik]
    · rw [bitsTo_succ,ih (by omega),Nat.testBit_lt_two_pow (Nat.lt_of_lt_of_le h (Nat.pow_le_pow_right (by omega) (by omega)))]
      simp
 exact (this 16 hi).symm
set_option maxRecDepth 100000 in
set_option maxHeartbeats 400000 in
theorem Members_any (w:World) (s:Nat) (hs:s < 65536) :
    Calls Tryz.prog 21 #[.int .i64 s] w fun e w'=>∃ u,e = .returned u ∧ IsInts w' u (bitsOf s) ∧ Ext w w':=by
 obtain ⟨i0,hi,hz0,hz1,hz2⟩:=info_parts Tryz.info3
 go_enter Tryz.func21,Tryz.ntmps21
 go_wp2
 go_loopw [0,3,4] (fun q u i wr=>∃ (k p:Nat),k ≤ 16 ∧ i = .int .i64 k ∧ q = .int .i64 p ∧ p ≤ 65535 ∧ p = s / 2 ^ k ∧ Own1 wr w.heap.size 3 (.int .i64) u (bitsTo s k) ∧ Ext w wr) (fun q _ _ _=>(intOf q).toNat)
 case atStart=>exact ⟨0,s,by omega,rfl,rfl,by omega,by simp,Own1.nil _ _ _ _,Ext.refl _⟩
 case round =>
  obtain ⟨k,p,hk,rfl,rfl,hp,hq,hown,hx⟩:=hrel
  have hlen:=bitsTo_len s k
  have hlt16:0 < p → k < 16:=fun h=>by
   rcases Nat.lt_or_ge k 16 with h' | h'
   · exact h'
   · have:s / 2 ^ k = 0:=Nat.div_eq_of_lt (Nat.lt_of_lt_of_le hs (Nat.pow_le_pow_right (n:=2) (by omega) h'))
     omega
  have HQ:=Lib.hid hq; clear hq
  by_cases hpos:0 < p
  · have hk16:=hlt16 hpos
    clear hlt16
    have hnext:p / 2 = s / 2 ^ (k + 1):=by rw [HQ.out,bits_step]
    have HN:=Lib.hid hnext; clear hnext
    by_cases hb:p % 2 = 1
    · have ht:s.testBit k = true:=by rw [bit_at,← HQ.out]; simp [hb]
      have HT:=Lib.hid ht; clear ht
      have hb1:((p:Int) % 2 == 1) = true:=by rw [beq_iff_eq]; omega
      have hb2:((p:Int) % 2) = 1:=by omega
      have HB:=Lib.hid hb; clear hb
      go_wp2_with (at_builtin; refine wpList_append_own _ rfl _ _ 39 rfl (w.heap.size) 3 i0 (.int .i64 0) 1 8 Tryz.underlying39 hi hz0 hz1 hz2 rfl (by decide) _ _ _ rfl (World.ownsRow.alloc hown _) ⟨wr.heap.size,0,none⟩ 1 1 [.int .i64 k] rfl rfl ?_ ?_ ?_ ?_ ?_ ?_; exact one_new _ _ _; (focus (simp [Value.oneCell'])); (focus (unfold maxLen; omega)); (focus omega); (focus (have:=hx.size; simp at this ⊢; omega)); intro v' w1 hown' hgrow _)
      have hx':=ext_grown hx hown (Nat.le_refl _) hgrow
      go_wp2
      go_roundw
      case rel=>exact ⟨k + 1,p / 2,by omega,by go_num,by go_num,by omega,HN.out,by rw [bitsTo_succ,HT.out]; exact Own1.snoc hown',hx'⟩
      case measure=>simp [intOf]; omega
    · have ht:s.testBit k = false:=by rw [bit_at,← HQ.out]; simp [hb]
      have HT:=Lib.hid ht; clear ht
      have hb1:((p:Int) % 2 == 1) = false:=by rw [beq_eq_false_iff_ne]; omega
      have HB:=Lib.hid hb; clear hb
      go_wp2
      go_roundw
      case rel=>exact ⟨k + 1,p / 2,by omega,by go_num,by go_num,by omega,HN.out,by rw [bitsTo_succ,HT.out]; simpa using hown,hx⟩
      case measure=>simp [intOf]; omega
  · clear hlt16
    obtain rfl:p = 0:=by omega
    go_wp2
    go_ret
    refine ⟨_,rfl,?_,hx⟩
    have h0:s < 2 ^ k:=by
     have h:=HQ.out
     rcases Nat.lt_or_ge s (2 ^ k) with h' | h'
     · exact h'
     · have:=Nat.div_pos h' (Nat.two_pow_pos k); omega
    rw [← bitsTo_end s k h0 hk]
    exact hown.ints (by omega)
end Go.Proofs
