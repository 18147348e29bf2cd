/- What the functions of chapter 7 come to, in plain lists and numbers: no program is in sight here. Contracts of small functions of the references. Contracts: sizes, names and Q0b of events; powers; sets as bits. -/
import Derived.Test.YtmaejccjimkbiaaGreatDoorFx01
import Derived.Test.YtmaejccjimkbiaaGreatDoorProg
import Derived.Deep.QuietTactic
import Derived.BigQuiet
set_option linter.unusedVariables false
set_option linter.unusedSimpArgs false
set_option linter.constructorNameAsVariable false
namespace Go.Tw
def Q0h:List Int → Int
 | []=>0
 | x :: l=>if x = 0 then Q0h l else x
def Q0m (x a b:Int):Int:=if x < a ∨ b < x then 3 else 0
def X5x:List Int → Bool
 | x :: y :: l=>decide (x < y) && X5x (y :: l)
 | _=>true
def Y7s (l:List Int) (n:Int):Bool:=l.any fun x=>decide (x < 0 ∨ n ≤ x)
def Q1h (l:List Int) (n:Int):Int:=if Y7s l n then 10 else if X5x l then 0 else 11
def Q2s (l:List Int) (n:Int):Int:=if l = [] then 12 else Q1h l n
def Q2q (c:UInt8):Bool:=(decide (97 ≤ c) && decide (c ≤ 122)) || (decide (65 ≤ c) && decide (c ≤ 90))
def Q4k (c:UInt8):Bool:=c == 95 || (decide (48 ≤ c) && decide (c ≤ 57))
def nameB (s:ByteArray):Bool:=match s.data.toList with
 | []=>false
 | c :: l=>Q2q c && l.all (fun c=>Q2q c || Q4k c) && decide (l.length < 24)
def Q2z (s:ByteArray):Int:=if nameB s then 0 else 8
def Q8z:ByteArray:=⟨#[97,110,100]⟩
def sOr:ByteArray:=⟨#[111,114]⟩
def Q5c:ByteArray:=⟨#[118,111,116,101]⟩
namespace Tree
def size (t:Tree):Nat:=t.basics.length + t.causes.length
def nodes (t:Tree):Nat:=t.basics.length + t.gates.length
def nameAt (t:Tree) (i:Nat):ByteArray:=if i < t.basics.length then bName t.basics i else cName t.causes (i - t.basics.length)
def Q0y (t:Tree) (i:Nat):Int:=if i < t.basics.length then Q1l t.basics i else Q1d t.causes (i - t.basics.length)
def Q7j (t:Tree) (i:Nat):Bool:=(List.range i).any fun k=>t.nameAt k == t.nameAt i
def Q0u (t:Tree) (i:Nat):Int :=
 Q0h [Q2z (t.nameAt i),Q0m (t.Q0y i) 0 16,if t.Q7j i then 9 else 0,if i < t.basics.length then 0 else Q2s (Q0c t.causes (i - t.basics.length)) t.basics.length]
end Tree
def Q8s (s:ByteArray):Bool:=s == Q8z || s == sOr || s == Q5c
def X0v (kind:ByteArray) (need:Int) (n:Nat):Int:=if kind = Q5c then Q0m need 1 n else Q0m need 0 0
def Q8n (kind:ByteArray) (need:Int) (inputs:List Int) (nodes:Int):Int :=
 Q0h [if Q8s kind then 0 else 13,if 12 < inputs.length then 5 else 0,Q2s inputs nodes,X0v kind need inputs.length]
namespace Tree
def Q1u (t:Tree) (i:Nat):Int:=Q8n (Q2c t.gates i) (Q2x t.gates i) (Q0l t.gates i) ((t.basics.length:Int) + i)
def err (t:Tree):Int :=
 if t.basics.length = 0 ∨ t.gates.length = 0 then 12 else if 12 < t.size ∨ 32 < t.gates.length then 5 else
 Q0h ((List.range t.size).map t.Q0u ++ (List.range t.gates.length).map t.Q1u)
def Y8w (t:Tree) (ev:Nat → Bool) (i:Nat):Bool:=ev i || (List.range t.causes.length).any fun k=>ev (t.basics.length + k) && has (Q0c t.causes k) i
end Tree
def Q5a (kind:ByteArray) (need:Int) (n:Nat):Int:=if kind = Q8z then n else if kind = sOr then 1 else need
def failing (out:List Bool) (inputs:List Int):Nat:=inputs.countP fun x=>bx out x.toNat
def Z5d (out:List Bool) (kind:ByteArray) (need:Int) (inputs:List Int):Bool:=decide (Q5a kind need inputs.length ≤ failing out inputs)
namespace Tree
def X2i (t:Tree) (ev:Nat → Bool):List Bool:=(List.range t.basics.length).map (t.Y8w ev)
def Q5y (t:Tree) (ev:Nat → Bool):Nat → List Bool
 | 0=>t.X2i ev
 | n + 1=>t.Q5y ev n ++ [Z5d (t.Q5y ev n) (Q2c t.gates n) (Q2x t.gates n) (Q0l t.gates n)]
def states (t:Tree) (ev:Nat → Bool):List Bool:=t.Q5y ev t.gates.length
def fails (t:Tree) (ev:Nat → Bool):Bool:=bx (t.states ev) (t.nodes - 1)
end Tree
def evL (l:List Int) (i:Nat):Bool:=has l i
def evN (s:Nat) (i:Nat):Bool:=s.testBit i
def bitsOf (s:Nat):List Int:=((List.range 16).filter (s.testBit ·)).map Int.ofNat
def others (n:Nat) (l:List Int):List Int:=((List.range n).map Int.ofNat).filter fun x=>!has l x
def without (l:List Int) (k:Nat):List Int:=l.take k ++ l.drop (k + 1)
namespace Tree
def Q0b (t:Tree):List Int:=(List.range t.size).map t.Q0y
def setB (t:Tree) (l:List Int) (paths:Bool):Bool:=if paths then !t.fails (evL (others t.size l)) else t.fails (evL l)
def Q6z (t:Tree) (l:List Int) (paths:Bool):Bool:=t.setB l paths && !(List.range l.length).any fun k=>t.setB (without l k) paths
end Tree
def Y8v:List Int → List Int → Bool
 | x :: l,y :: m=>if x = y then Y8v l m else decide (x < y)
 | _,_=>false
def Q9j (a b:List Int):Bool:=if a.length = b.length then Y8v a b else decide (a.length < b.length)
def Q5m (l:List Int) (out:List (List Int)):Nat → Nat
 | 0=>0
 | n + 1=>if Q9j l (out.getD n []) then Q5m l out n else n + 1
def Q5q (l:List Int) (out:List (List Int)):List (List Int):=out.take (Q5m l out out.length) ++ [l] ++ out.drop (Q5m l out out.length)
namespace Tree
def sets (t:Tree) (paths:Bool):List (List Int):=(List.range (2 ^ t.size)).foldl (fun out s=>if t.Q6z (bitsOf s) paths then Q5q (bitsOf s) out else out) []
def single (t:Tree):List Int:=((List.range t.size).map Int.ofNat).filter fun x=>t.fails (evL [x])
end Tree
namespace Tree
end Tree
def Q2w (n:Nat) (l:List (List Int)):Int:=if 1024 < l.length then 5 else Q0h (l.map fun x=>Q1h x n)
def factor (c:List Int) (s j:Nat):Int:=if s.testBit j then ix c j else 16 - ix c j
def Q7f (c:List Int) (s:Nat):Nat → Int
 | 0=>1
 | j + 1=>Q7f c s j * factor c s j
def partOf (c:List Int) (s:Nat):Int:=Q7f c s c.length
namespace Tree
def Y3v (t:Tree) (c:List Int):Nat → Int
 | 0=>0
 | s + 1=>t.Y3v c s + if t.fails (evN s) then partOf c s else 0
def weight (t:Tree) (c:List Int):Int:=t.Y3v c (2 ^ t.size)
end Tree
structure Ratio where
 num:Int
 den:Int
deriving DecidableEq
def lowest (a b:Int):Ratio:=⟨a / (Int.gcd a b:Int),b / (Int.gcd a b:Int)⟩
def Q0t (c:List Int) (l:List Int) (n:Int):List Int:=(List.range c.length).map fun (i:Nat)=>if has l i then n else ix c i
end Go.Tw
namespace Go.Proofs
open Go.RowKit Go.Tw
theorem Tryz.info3:(Tryz.prog.info? 3).map (fun i=>(i.zero,i.size,i.bytes)) = some (some (.int .i64 0),1,8):=by kernel_rfl
set_option maxHeartbeats 400000 in
theorem Q6e (w:World) (v:Value) (l:List Int) (hv:Q0f w v l) :
    Calls Tryz.prog 37 #[v] w fun e w'=>e = .returned (.int .i64 (Q0h l)) ∧ w = w':=by
 obtain ⟨A,cap,rfl,hl,hcap,hc⟩:=hv.opened;clear hv;go_enter Tryz.func37,Tryz.ntmps37;go_wp2
 go_loop [3] (fun i=>∃ k:Nat,k ≤ l.length ∧ i = .int .i64 k ∧ Q0h (l.drop k) = Q0h l) (fun i=>l.length - (intOf i).toNat)
 case atStart=>exact ⟨0,Nat.zero_le _,rfl,rfl⟩
 case round =>
  obtain ⟨k,hk,rfl,hr⟩:=hrel;have HR:=Lib.hid hr; clear hr
  by_cases hlt:k < l.length
  · obtain ⟨b,off,rfl,hcell⟩:=hc k hlt
    clear hc
    by_cases hx:ix l k = 0
    · have HX:=Lib.hid hx
      have hx1:(ix l k != 0) = false:=by simp [hx]
      clear hx;go_wp2;go_round
      case rel=>exact ⟨k + 1,by omega,by go_num,by rw [← HR.out,Q3q hlt,Q0h,if_pos HX.out]⟩
      case measure=>simp [intOf]; omega
    · have hx1:(ix l k != 0) = true:=by simp [hx]
      have HX:=Lib.hid hx; clear hx;go_wp2;go_ret;exact ⟨Q1f (by rw [← HR.out,Q3q hlt,Q0h,if_neg HX.out]),rfl⟩
  · clear hc
    go_wp2;go_ret;exact ⟨Q1f (by rw [← HR.out,List.drop_eq_nil_of_le (by omega)]; rfl),rfl⟩
theorem Q5u (w:World) (x a b:Int) :
    Calls Tryz.prog 39 #[.int .i64 x,.int .i64 a,.int .i64 b] w fun e w'=>e = .returned (.int .i64 (Q0m x a b)) ∧ w = w':=by
 unfold Q0m
 by_cases h1:x < a
 · rw [if_pos (.inl h1)]
   go_enter Tryz.func39,Tryz.ntmps39;go_wp2;go_ret;exact ⟨rfl,rfl⟩
 · by_cases h2:b < x
   · rw [if_pos (.inr h2)]
     go_enter Tryz.func39,Tryz.ntmps39;go_wp2;go_ret;exact ⟨rfl,rfl⟩
   · rw [if_neg (by omega)]
     go_enter Tryz.func39,Tryz.ntmps39;go_wp2;go_ret;exact ⟨rfl,rfl⟩
end Go.Proofs
namespace Go.Proofs
open Go.RowKit Go.Tw
theorem X3y (w:World) (v:Value) (t:Tree) (ht:IsTree w v t) :
    Calls Tryz.prog 20 #[v] w fun e w'=>e = .returned (.int .i64 t.size) ∧ Ext w w':=by
 obtain ⟨a,b,c,rfl,h3⟩:=ht;obtain ⟨A,cap,rfl,hl,hcap,hc⟩:=h3.basics.opened;obtain ⟨A',cap',rfl,hl',hcap',hc'⟩:=h3.causes.opened;clear h3 hc hc';go_enter Tryz.func20,Tryz.ntmps20;go_wp2;go_ret;exact ⟨Q1f (by unfold Tree.size; omega),(Ext.refl _).alloc _⟩
set_option maxHeartbeats 400000 in
theorem name_any (w:World) (v:Value) (t:Tree) (k:Nat) (ht:IsTree w v t) (hk:k < t.size) :
    Calls Tryz.prog 87 #[v,.int .i64 k] w fun e w'=>e = .returned (.string (t.nameAt k)) ∧ Ext w w':=by
 unfold Tree.size at hk;obtain ⟨a,b,c,rfl,h3⟩:=ht;obtain ⟨A,cap,rfl,hl,hcap,hc⟩:=h3.basics.opened;obtain ⟨A',cap',rfl,hl',hcap',hc'⟩:=h3.causes.opened;clear h3
 by_cases hlt:k < t.basics.length
 · obtain ⟨b,off,rfl,hb,h0,h1,h2⟩:=hc k hlt
   clear hc hc' h2;go_enter Tryz.func87,Tryz.ntmps87;go_wp2;go_ret;exact ⟨Y7l (by unfold Tree.nameAt; rw [if_pos hlt]),(Ext.refl _).alloc _⟩
 · obtain ⟨j,rfl⟩:∃ j,k = t.basics.length + j:=⟨k - t.basics.length,by omega⟩
   obtain ⟨b,off,m,rfl,hb,h0,h1,h2,h3⟩:=hc' j (by omega)
   clear hc hc' h2;go_enter Tryz.func87,Tryz.ntmps87;go_wp2;go_ret;exact ⟨Y7l (by unfold Tree.nameAt; rw [if_neg hlt,Nat.add_sub_cancel_left]),(Ext.refl _).alloc _⟩
set_option maxHeartbeats 400000 in
theorem Y6f (w:World) (v:Value) (t:Tree) (k:Nat) (ht:IsTree w v t) (hk:k < t.size) :
    Calls Tryz.prog 92 #[v,.int .i64 k] w fun e w'=>e = .returned (.int .i64 (t.Q0y k)) ∧ Ext w w':=by
 unfold Tree.size at hk;obtain ⟨a,b,c,rfl,h3⟩:=ht;obtain ⟨A,cap,rfl,hl,hcap,hc⟩:=h3.basics.opened;obtain ⟨A',cap',rfl,hl',hcap',hc'⟩:=h3.causes.opened;clear h3
 by_cases hlt:k < t.basics.length
 · obtain ⟨b,off,rfl,hb,h0,h1,h2⟩:=hc k hlt
   clear hc hc' h2;go_enter Tryz.func92,Tryz.ntmps92;go_wp2;go_ret;exact ⟨Q1f (by unfold Tree.Q0y; rw [if_pos hlt]),(Ext.refl _).alloc _⟩
 · obtain ⟨j,rfl⟩:∃ j,k = t.basics.length + j:=⟨k - t.basics.length,by omega⟩
   obtain ⟨b,off,m,rfl,hb,h0,h1,h2,h3⟩:=hc' j (by omega)
   clear hc hc' h2;go_enter Tryz.func92,Tryz.ntmps92;go_wp2;go_ret;exact ⟨Q1f (by unfold Tree.Q0y; rw [if_neg hlt,Nat.add_sub_cancel_left]),(Ext.refl _).alloc _⟩
def Q5n (a n:Nat):Nat:=a ^ n
end Go.Proofs
