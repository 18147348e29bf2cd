/- Small aids for the uses of the region theorem and for boxes. Contracts: the errors of sets; sets without an element; all others. Sets of numbers as the bits of a number, and Go's operators on them: no program is in sight here. Contracts of small functions of the program: when, first, within, ascending. -/
import Derived.Test.YtmaejccjimkbiaaGreatDoorFx04
import Derived.Test.YtmaejccjimkbiaaGreatDoorFx01
import Derived.Deep.Draws
import Derived.Test.YtmaejccjimkbiaaGreatDoorFx02
import Derived.Laws.StructEq
import Derived.Laws.BitsLemmas
set_option linter.unusedVariables false
set_option linter.unusedSimpArgs false
set_option linter.constructorNameAsVariable false
namespace Go.Tw
open Go.RowKit Go.Flow
theorem Q0e {P:Program} {f:FuncId} {args:Array Value} {w:World} {K:Value → World → Prop} {R:Ending → World → Prop} (h:Calls P f args w R) (hk:∀ e w',R e w' → ∃ u,e = .returned u ∧ K u w') :
    gives P K (.ok (.enter f args) w):=h.mono hk
theorem Q0z (w:World) (cs:Array Value) (e:TypeId) (i:Nat):(w.alloc (.cells cs e)).cell? ⟨w.heap.size,i,none⟩ = cs[i]?:=by
 rw [World.cell?_alloc_at _ _ _ _ rfl]
theorem Ext.box (w:World) (o:Obj):Ext w (w.alloc o):=(Ext.refl w).alloc o
theorem Ext.drewN {a b:World} (h:Ext a b) (n:Nat):Ext a (b.drewN n):=by
 obtain ⟨h1,h2,h3,h4,h5⟩:=h;exact ⟨h1,h2,h3,h4,h5⟩
theorem addr_add (b off j:Nat):(⟨b,off,none⟩:Addr).add j = ⟨b,off + j,none⟩:=by unfold Addr.add; split <;> simp_all
theorem below_grown {α:Type} {w w':World} {base B:Nat} {e:TypeId} {enc:α → Value} {v:Value} {xs:List α} (hown:Q0q w base e enc v xs) (hg:w.grownBy w' v.ownBlock) (hb:B ≤ base) (hB:B ≤ w.heap.size):Below B w w' :=
 Below.grown (Below.refl _ _) hg hB (fun k hk=>Nat.le_trans hb (World.ownsRow.lt hown k hk).1)
theorem Q0q.made {α:Type} (w:World) (base:Nat) (e:TypeId) (enc:α → Value) (hb:base ≤ w.heap.size):Q0q (w.alloc (.cells #[] e)) base e enc (.slice (some ⟨w.heap.size,0,none⟩) 0 0) ([]:List α) :=
 World.ownsRow_made w #[] 0 hb (by unfold maxLen; omega) rfl
theorem X3c {α:Type} {P:Program} {K:Value → World → Prop} {o:Oper} {a:Act} {w:World} (s x:Operand) (t:TypeId) (ho:o.op = .call { callee:=.builtin .append,args:=#[s,x],argTypes:=#[t,t] })
    (base:Nat) (e:TypeId) (i:TypeInfo) (z:Value) (bytes:Nat) (ht:P.underlying t = some (.slice e)) (hi:P.info? e = some i) (hz:i.zero = some z) (hsize:i.size = 1) (hby:i.bytes = bytes) (hzs:z.cells.size = 1)
    (enc:α → Value) (v:Value) (xs ys:List α) (hs:a.eval s = v) (hown:Q0q w base e enc v xs) (ad:Addr) (c:Nat) (hx:a.eval x = .slice (some ad) ys.length c)
    (hnews:∀ j (h:j < ys.length),w.cell? (ad.add j) = some (enc ys[j])) (h1:∀ y,(enc y).oneCell' = true)
    (h63:xs.length + ys.length ≤ 17592186043904) (hb:bytes ≤ 8) (hbase:base ≤ w.heap.size)
    (h:∀ v' w',Q0q w' base e enc v' (xs ++ ys) → w.grownBy w' v.ownBlock → K v' w'):gives P K ((execOp a.eval o).run P w):=by
 obtain ⟨v',w',hr,h2,h3,h4⟩:=run_append_own (P:=P) w base t o.type e i z 1 bytes ht hi hz hsize hby hzs (by decide) v xs.length (xs.map enc) hown ad ys.length c (ys.map enc) (by simp) (fun j u hu=>by
  rw [List.getElem?_map] at hu
  rcases Nat.lt_or_ge j ys.length with hj | hj
  · rw [List.getElem?_eq_getElem hj] at hu
    simp only [Option.map_some,Option.some.injEq] at hu;rw [← hu]; exact hnews j hj
  · rw [List.getElem?_eq_none hj] at hu; cases hu) (fun u hu=>by obtain ⟨y,_,rfl⟩:=List.mem_map.1 hu; exact h1 y) (by unfold maxLen; omega) (by
    have:(xs.length + ys.length) * bytes ≤ 17592186043904 * 8:=Nat.mul_le_mul h63 hb;omega) hbase
 unfold execOp;simp only [ho,resolve,invoke,builtin,Sem.run_bind,Sem.run_pure,Result.andThen_ok,List.map_toArray,List.map_cons,List.map_nil,hs,hx,hr];refine h v' w' ?_ h3;unfold Q0q
 simpa using h2
def Src {α:Type} (w:World) (enc:α → Value) (v:Value) (ys:List α):Prop:=∃ A c,v = .slice A ys.length c ∧ ∀ j (h:j < ys.length),∃ b off,A = some ⟨b,off,none⟩ ∧ w.cell? ⟨b,off + j,none⟩ = some (enc ys[j])
theorem Q5i {P:Program} (w:World) (t ty e:TypeId) (i:TypeInfo) (ht:P.underlying t = some (.slice e)) (hi:P.info? e = some i) (b A:Option Addr) (s c c':Nat) (h:s ≤ c) :
    (Builtin.append_ #[t,t] ty #[.slice b s c,.slice A 0 c']).run P w = .ok (.slice b s c) w:=by
 cases A <;> cases b <;> simp [Builtin.append_,run_underlying ht,sizeOf,typeInfo,hi,Builtin.lenOf,Builtin.firstCells,loadCells,loadCellsFrom,storeCells,h]
theorem Q0q.shape {α:Type} {w:World} {base:Nat} {e:TypeId} {enc:α → Value} {v:Value} {xs:List α} (h:Q0q w base e enc v xs):∃ b c,v = .slice b xs.length c ∧ xs.length ≤ c:=by
 rcases h.2 with ⟨rfl,h0⟩ | ⟨g,cap,cur,rfl,_,_,hc,_⟩
 · exact ⟨none,0,by rw [h0],by omega⟩
 · exact ⟨_,cap,rfl,hc⟩
theorem X3o {α:Type} {P:Program} {K:Value → World → Prop} {o:Oper} {a:Act} {w:World} (s x:Operand) (t:TypeId) (ho:o.op = .call { callee:=.builtin .append,args:=#[s,x],argTypes:=#[t,t] })
    (base:Nat) (e:TypeId) (i:TypeInfo) (z:Value) (bytes:Nat) (ht:P.underlying t = some (.slice e)) (hi:P.info? e = some i) (hz:i.zero = some z) (hsize:i.size = 1) (hby:i.bytes = bytes) (hzs:z.cells.size = 1)
    (enc:α → Value) (v src:Value) (xs ys:List α) (hs:a.eval s = v) (hown:Q0q w base e enc v xs) (hx:a.eval x = src) (hsrc:Src w enc src ys) (h1:∀ y ∈ ys,(enc y).oneCell' = true)
    (h63:xs.length + ys.length ≤ 4398046511104) (hb:bytes ≤ 32) (hbase:base ≤ w.heap.size)
    (h:∀ v' w',Q0q w' base e enc v' (xs ++ ys) → w.grownBy w' v.ownBlock → K v' w'):gives P K ((execOp a.eval o).run P w):=by
 obtain ⟨A,c,rfl,hc⟩:=hsrc;cases ys with
 | nil =>
   obtain ⟨b,c',rfl,hcap⟩:=hown.shape;unfold execOp;simp only [ho,resolve,invoke,builtin,Sem.run_bind,Sem.run_pure,Result.andThen_ok,List.map_toArray,List.map_cons,List.map_nil,hs,hx];rw [List.length_nil,Q5i (P:=P) w t o.type e i ht hi b A xs.length c' c hcap];exact h _ _ (by simpa using hown) ⟨rfl,rfl,rfl,Nat.le_refl _,fun _ _ _=>rfl⟩
 | cons y ys =>
   obtain ⟨b0,off0,rfl,_⟩:=hc 0 (by simp)
   obtain ⟨v',w',hr,h2,h3,h4⟩:=run_append_own (P:=P) w base t o.type e i z 1 bytes ht hi hz hsize hby hzs (by decide) v xs.length (xs.map enc) hown ⟨b0,off0,none⟩ (y :: ys).length c ((y :: ys).map enc) (by simp) (fun j u hu=>by
    rw [List.getElem?_map] at hu
    rcases Nat.lt_or_ge j (y :: ys).length with hj | hj
    · rw [List.getElem?_eq_getElem hj] at hu
      simp only [Option.map_some,Option.some.injEq] at hu;obtain ⟨b',off',hA,hcell⟩:=hc j hj;cases hA;rw [← hu,addr_add]; exact hcell
    · rw [List.getElem?_eq_none hj] at hu; cases hu) (fun u hu=>by obtain ⟨y,hy,rfl⟩:=List.mem_map.1 hu; exact h1 y hy) (by unfold maxLen; omega) (by
      have:(xs.length + (y :: ys).length) * bytes ≤ 4398046511104 * 32:=Nat.mul_le_mul h63 hb;omega) hbase
   unfold execOp;simp only [ho,resolve,invoke,builtin,Sem.run_bind,Sem.run_pure,Result.andThen_ok,List.map_toArray,List.map_cons,List.map_nil,hs,hx,hr];refine h v' w' ?_ h3;unfold Q0q
   simpa using h2
theorem Q8i {α:Type} {P:Program} {K:Value → World → Prop} {o:Oper} {a:Act} {w:World} (s x:Operand) (t:TypeId) (ho:o.op = .call { callee:=.builtin .append,args:=#[s,x],argTypes:=#[t,t] })
    (base:Nat) (e:TypeId) (i:TypeInfo) (z:Value) (bytes:Nat) (ht:P.underlying t = some (.slice e)) (hi:P.info? e = some i) (hz:i.zero = some z) (hsize:i.size = 1) (hby:i.bytes = bytes) (hzs:z.cells.size = 1)
    (enc:α → Value) (v src:Value) (ys:List α) (hs:a.eval s = v) (hv:∃ g,v = .slice (some ⟨g,0,none⟩) 0 0 ∧ base ≤ g ∧ w.heap[g]? = some (.cells #[] e (0,0))) (hx:a.eval x = src) (hsrc:Src w enc src ys) (h1:∀ y ∈ ys,(enc y).oneCell' = true)
    (h63:ys.length ≤ 4398046511104) (hb:bytes ≤ 32) (hbase:base ≤ w.heap.size)
    (h:∀ v' w',Q0q w' base e enc v' ys → Ext w w' → K v' w'):gives P K ((execOp a.eval o).run P w):=by
 obtain ⟨g,rfl,hbg,hg⟩:=hv;have hown:Q0q w base e enc (.slice (some ⟨g,0,none⟩) 0 0) ([]:List α):=⟨by simp,.inr ⟨g,0,#[],rfl,hbg,hg,Nat.le_refl _,Nat.zero_le _,rfl,by simp⟩⟩
 obtain ⟨A,c,rfl,hc⟩:=hsrc;cases ys with
 | nil =>
   unfold execOp;simp only [ho,resolve,invoke,builtin,Sem.run_bind,Sem.run_pure,Result.andThen_ok,List.map_toArray,List.map_cons,List.map_nil,hs,hx];rw [List.length_nil,Q5i (P:=P) w t o.type e i ht hi _ A 0 0 c (Nat.le_refl _)];exact h _ _ hown (Ext.refl _)
 | cons y ys =>
   obtain ⟨b0,off0,rfl,_⟩:=hc 0 (by simp)
   have hnews:∀ j u,((y :: ys).map enc)[j]? = some u → w.cell? ((⟨b0,off0,none⟩:Addr).add j) = some u:=fun j u hu=>by
    rw [List.getElem?_map] at hu
    rcases Nat.lt_or_ge j (y :: ys).length with hj | hj
    · rw [List.getElem?_eq_getElem hj] at hu
      simp only [Option.map_some,Option.some.injEq] at hu;obtain ⟨b',off',hA,hcell⟩:=hc j hj;cases hA;rw [← hu,addr_add]; exact hcell
    · rw [List.getElem?_eq_none hj] at hu; cases hu
   have hbytes:(y :: ys).length * bytes ≤ 140737488355328:=by
    have:(y :: ys).length * bytes ≤ 4398046511104 * 32:=Nat.mul_le_mul h63 hb;omega
   obtain ⟨v',w',hr,h2,h3,h4⟩:=run_append_own (P:=P) w base t o.type e i z 1 bytes ht hi hz hsize hby hzs (by decide) _ 0 (([]:List α).map enc) hown ⟨b0,off0,none⟩ (y :: ys).length c ((y :: ys).map enc) (by simp) hnews (fun u hu=>by obtain ⟨y,hy,rfl⟩:=List.mem_map.1 hu; exact h1 y hy) (by unfold maxLen; omega) (by rw [Nat.zero_add]; exact hbytes) hbase
   have hgr:=run_append_grow (P:=P) w t o.type e i z ht hi hz ⟨g,0,none⟩ 0 0 [] (by simp) (by simp) ⟨b0,off0,none⟩ (y :: ys).length c ((y :: ys).map enc) (by rw [hsize]; simp) hnews (by simp) (by simp only [List.length_cons] at h63 ⊢; omega) (by rw [hby]; exact growslice_fits (by simp) (by rw [Nat.zero_add]; exact hbytes))
   rw [hr] at hgr;injection hgr with hv' hw';unfold execOp;simp only [ho,resolve,invoke,builtin,Sem.run_bind,Sem.run_pure,Result.andThen_ok,List.map_toArray,List.map_cons,List.map_nil,hs,hx,hr];refine h v' w' ?_ (by rw [hw']; exact ((Ext.refl w).drew).alloc _)
   unfold Q0q
   simpa using h2
theorem Y3w:Q8z.toList = [97,110,100]:=by simp [Q8z,go_sem]
theorem Y9f:sOr.toList = [111,114]:=by simp [sOr,go_sem]
theorem X4n:Q5c.toList = [118,111,116,101]:=by simp [Q5c,go_sem]
theorem Q6r {a b:ByteArray} {l:List UInt8} (hl:b.toList = l) (h:¬ a = b):(a.toList == l) = false:=by
 rw [← hl,← Go.beq_toListBytes]; exact Q5k h
theorem toList_eq {a b:ByteArray} {l:List UInt8} (hl:b.toList = l) (h:a = b):(a.toList == l) = true:=by
 rw [← hl,← Go.beq_toListBytes]; exact str_eq h
end Go.Tw
namespace Go.Proofs
open Go.RowKit Go.Tw Go.Flow
def out1 (x n:Int):Bool:=decide (x < 0 ∨ n ≤ x)
theorem Q8e (x:Int) (l:List Int) (n:Int):Y7s (x :: l) n = (out1 x n || Y7s l n):=rfl
theorem X3w {l:List Int} {k:Nat} (h:k + 1 < l.length):X5x (l.drop k) = (decide (ix l k < ix l (k + 1)) && X5x (l.drop (k + 1))):=by
 rw [Q3q (show k < l.length by omega),Q3q h]; rfl
theorem Y7a {l:List Int} {k:Nat} (h:l.length ≤ k + 1):X5x (l.drop k) = true:=by
 rcases Nat.lt_or_ge k l.length with h' | h'
 · rw [Q3q h',List.drop_eq_nil_of_le h]; rfl
 · rw [List.drop_eq_nil_of_le h']; rfl
set_option maxHeartbeats 800000 in
theorem Y0s (w:World) (v:Value) (l:List Int) (n:Int) (hv:Q0f w v l) :
    Calls Tryz.prog 71 #[v,.int .i64 n] w fun e w'=>e = .returned (.int .i64 (Q1h l n)) ∧ Ext w w':=by
 obtain ⟨A,cap,rfl,hl,hcap,hc⟩:=hv.opened;clear hv;go_enter Tryz.func71,Tryz.ntmps71;go_wp2
 go_loop [5] (fun i=>∃ k:Nat,k ≤ l.length ∧ i = .int .i64 k ∧ Y7s (l.drop k) n = Y7s l n) (fun i=>l.length - (intOf i).toNat)
 case atStart=>exact ⟨0,Nat.zero_le _,rfl,rfl⟩
 case round =>
  obtain ⟨k,hk,rfl,hr⟩:=hrel;have HR:=Lib.hid hr; clear hr
  by_cases hlt:k < l.length
  · obtain ⟨b,off,rfl,hcell⟩:=hc k hlt
    clear hc
    by_cases h0:ix l k < 0
    · have HO:Hid (out1 (ix l k) n = true):=by unfold out1; exact decide_eq_true (.inl h0)
      go_wp2;go_ret;exact ⟨Q1f (by unfold Q1h; rw [← HR.out,Q3q hlt,Q8e,HO.out]; rfl),Ext.refl _⟩
    · by_cases h1:n ≤ ix l k
      · have HO:Hid (out1 (ix l k) n = true):=by unfold out1; exact decide_eq_true (.inr h1)
        go_wp2;go_ret;exact ⟨Q1f (by unfold Q1h; rw [← HR.out,Q3q hlt,Q8e,HO.out]; rfl),Ext.refl _⟩
      · have HO:Hid (out1 (ix l k) n = false):=by unfold out1; exact decide_eq_false (by omega)
        go_wp2;go_round
        case rel=>exact ⟨k + 1,by omega,by go_num,by rw [← HR.out,Q3q hlt,Q8e,HO.out,Bool.false_or]⟩
        case measure=>simp [intOf]; omega
  · have HO:Hid (Y7s l n = false):=by
     have:=HR.out;rw [List.drop_eq_nil_of_le (by omega)] at this
     exact this.symm
    clear HR;go_wp2
    go_loopw [6] (fun i wr=>∃ k:Nat,(k + 1 ≤ l.length ∨ k = 0) ∧ i = .int .i64 (k + 1:Nat) ∧ X5x (l.drop k) = X5x l ∧ Ext w wr) (fun i _=>l.length - (intOf i).toNat)
    case atStart=>exact ⟨0,.inr rfl,rfl,rfl,Ext.refl _⟩
    case round =>
     obtain ⟨m,hm,rfl,hr,hx⟩:=hrel;have HR:=Lib.hid hr; clear hr
     by_cases hlm:m + 1 < l.length
     · obtain ⟨b,off,rfl,hcell⟩:=hc m (by omega)
       obtain ⟨b',off',hA,hcell'⟩:=hc (m + 1) hlm;cases hA;clear hc;replace hcell:=hx.cell hcell;replace hcell':=hx.cell hcell';have i1:(0:Int) ≤ ((m + 1:Nat):Int):=by omega
       have i2:((m + 1:Nat):Int) < l.length:=by omega
       have i3:(0:Int) ≤ ((m + 1:Nat):Int) - 1:=by omega
       have i4:((m + 1:Nat):Int) - 1 < l.length:=by omega
       have i5:(((m + 1:Nat):Int) - 1).toNat = m:=by omega
       by_cases ha:ix l m < ix l (m + 1)
       · have HA:Hid (decide (ix l m < ix l (m + 1)) = true):=by exact decide_eq_true ha
         go_wp2
         go_quiet (fail)
         all_goals go_wp2
         go_roundw
         case rel=>exact ⟨m + 1,by omega,by go_num,by rw [← HR.out,X3w hlm,HA.out,Bool.true_and],hx.drewN _⟩
         case measure=>simp [intOf]; omega
       · have HA:Hid (decide (ix l m < ix l (m + 1)) = false):=by exact decide_eq_false ha
         have ha':ix l (m + 1) ≤ ix l m:=by omega
         go_wp2
         go_quiet (fail)
         all_goals go_wp2
         go_ret;exact ⟨Q1f (by unfold Q1h; rw [HO.out,← HR.out,X3w hlm,HA.out,Bool.false_and]; rfl),hx.drewN _⟩
     · clear hc
       have i2:(l.length:Int) ≤ ((m + 1:Nat):Int):=by omega
       go_wp2;go_ret;exact ⟨Q1f (by unfold Q1h; rw [HO.out,← HR.out,Y7a (by omega)]; rfl),hx⟩
theorem X1m (w:World) (v:Value) (l:List Int) (n:Int) (hv:Q0f w v l) :
    Calls Tryz.prog 93 #[v,.int .i64 n] w fun e w'=>e = .returned (.int .i64 (Q2s l n)) ∧ Ext w w':=by
 have HV:=Lib.hid hv;obtain ⟨A,cap,rfl,hl,hcap,hc⟩:=hv.opened;clear hv hc
 by_cases h0:l.length = 0
 · have h1:(((l.length:Nat):Int) == 0) = true:=by rw [beq_iff_eq]; omega
   have H0:=Lib.hid h0; clear h0;go_enter Tryz.func93,Tryz.ntmps93;go_wp2;go_ret;exact ⟨Q1f (by unfold Q2s; rw [if_pos (List.length_eq_zero_iff.1 H0.out)]),Ext.refl _⟩
 · have h1:(((l.length:Nat):Int) == 0) = false:=by rw [beq_eq_false_iff_ne]; omega
   have H0:=Lib.hid h0; clear h0;go_enter Tryz.func93,Tryz.ntmps93;go_wp2_with (go_at_call 71; refine (Y0s _ _ l n HV.out).mono ?_; rintro e w' ⟨rfl,hx⟩);go_ret;exact ⟨Q1f (by unfold Q2s; rw [if_neg (fun h=>H0.out (by rw [h]; rfl))]),hx⟩
end Go.Proofs
namespace Go.Tw
def Q4l:List Bool → Nat
 | []=>0
 | b :: l=>b.toNat + 2 * Q4l l
theorem Q4n:∀ (l:List Bool) (i:Nat),(Q4l l).testBit i = bx l i
 | [],i=>by simp [Q4l,bx]
 | b :: l,0=>by
   rw [Q4l,Nat.testBit_zero];cases b <;> simp [bx] <;> omega
 | b :: l,i + 1=>by
   rw [Q4l,Nat.testBit_succ,show (b.toNat + 2 * Q4l l) / 2 = Q4l l from by cases b <;> simp <;> omega,Q4n l i]
   simp [bx]
theorem Y3u:∀ l:List Bool,Q4l l < 2 ^ l.length
 | []=>by simp [Q4l]
 | b :: l=>by
   have:=Y3u l;rw [Q4l,List.length_cons,Nat.pow_succ];cases b <;> simp <;> omega
theorem X4k (n i:Nat):(2 ^ n).testBit i = decide (i = n):=by
 rw [Nat.testBit_two_pow]; by_cases h:n = i
 · subst h; simp
 · have h2:¬ i = n:=fun e=>h e.symm
   simp [h,h2]
theorem Y8k (l m:List Bool) (i:Nat):bx (l ++ m) i = if i < l.length then bx l i else bx m (i - l.length):=by
 unfold bx
 split
 · rename_i h; simp [List.getD_eq_getElem?_getD,List.getElem?_append_left h]
 · rename_i h; simp [List.getD_eq_getElem?_getD,List.getElem?_append_right (by omega:l.length ≤ i)]
theorem X9f {l:List Bool} {i:Nat} (h:l.length ≤ i):bx l i = false:=by simp [bx,h]
theorem Y6j (l:List Bool) (b:Bool):Q4l (l ++ [b]) = if b then Q4l l ||| 2 ^ l.length else Q4l l:=by
 apply Nat.eq_of_testBit_eq
 intro i;rw [Q4n,Y8k]
 by_cases h:i < l.length
 · rw [if_pos h]
   cases b with
   | false=>simp only [Bool.false_eq_true,if_false]; rw [Q4n]
   | true=>simp only [if_true]; rw [Nat.testBit_or,X4k,Q4n,decide_eq_false (by omega:¬ i = l.length),Bool.or_false]
 · rw [if_neg h]
   cases b with
   | false => simp only [Bool.false_eq_true, if_false]; rw [Q4n, X9f (l := l) (by omega)]; rcases Nat.lt_or_ge (i - l.length) 1 with h' | h'
              · rw [show i - l.length = 0 from by omega]; rfl
              · exact X9f (by simpa using h')
   | true =>
     simp only [if_true];rw [Nat.testBit_or,X4k,Q4n,X9f (l:=l) (by omega),Bool.false_or]
     by_cases h':i = l.length
     · subst h'; simp [bx]
     · rw [decide_eq_false h']; exact X9f (by simp; omega)
def Z3e (a:Nat) (x:Int):Nat:=a ||| 2 ^ x.toNat
def X4u (a:Nat) (l:List Int):Nat:=l.foldl Z3e a
def Q1n (l:List Int):Nat:=X4u 0 l
theorem X0q (a:Nat) (x:Int) (l:List Int):X4u a (x :: l) = X4u (Z3e a x) l:=rfl
theorem X6q:∀ (l:List Int) (a i:Nat),(∀ x ∈ l,0 ≤ x) → (X4u a l).testBit i = (a.testBit i || has l i)
 | [],a,i,_=>by simp [X4u,has]
 | x :: l,a,i,h=>by
   rw [X0q,X6q l _ i (fun y hy=>h y (List.mem_cons_of_mem _ hy)),Z3e,Nat.testBit_or,X4k,X3z,Bool.or_assoc];have h0:=h x (List.mem_cons_self ..)
   by_cases e:x = (i:Int)
   · subst e; simp
   · have e1:¬ i = x.toNat:=by omega
     rw [decide_eq_false e1,beq_false_of_ne e]
theorem X2c {l:List Int} (h:∀ x ∈ l,0 ≤ x) (i:Nat):(Q1n l).testBit i = has l i:=by
 unfold Q1n; rw [X6q l 0 i h]; simp
theorem X8t {n:Nat}:∀ (l:List Int) (a:Nat),a < 2 ^ n → (∀ x ∈ l,x < (n:Int)) → (0 < n) → X4u a l < 2 ^ n
 | [],_,h,_,_=>h
 | x :: l,a,h,hx,hn=>by
   rw [X0q];refine X8t l _ (Nat.or_lt_two_pow h (Nat.pow_lt_pow_right (by omega) ?_)) (fun y hy=>hx y (List.mem_cons_of_mem _ hy)) hn
   have:=hx x (List.mem_cons_self ..);omega
theorem Q9l {n:Nat} {l:List Int} (hn:0 < n) (h:∀ x ∈ l,x < (n:Int)):Q1n l < 2 ^ n:=X8t l 0 (Nat.two_pow_pos n) h hn
def Q2u (a b:Nat):Nat:=a ^^^ (a &&& b)
theorem Q4g (a b i:Nat):(Q2u a b).testBit i = (a.testBit i && !b.testBit i):=by
 unfold Q2u;rw [Nat.testBit_xor,Nat.testBit_and];cases a.testBit i <;> cases b.testBit i <;> rfl
theorem Q6q {a n:Nat} (b:Nat) (h:a < 2 ^ n):Q2u a b < 2 ^ n:=Nat.xor_lt_two_pow h (Nat.lt_of_le_of_lt Nat.and_le_left h)
theorem Q6d (n:Int) (h0:0 ≤ n) (h1:n < 2 ^ 62):IntKind.i64.wrap n = n:=by rw [IntKind.wrap_i64]; omega
theorem Z6i {a b:Nat} (ha:a < 2 ^ 62) (hb:b < 2 ^ 62):bits .or .i64 (a:Int) (b:Int) = ((a ||| b:Nat):Int):=(bits_nat .i64 62 (by decide) Q6d a b ha hb).2
theorem Z2d {a b:Nat} (ha:a < 2 ^ 62) (hb:b < 2 ^ 62):bits .and .i64 (a:Int) (b:Int) = ((a &&& b:Nat):Int):=(bits_nat .i64 62 (by decide) Q6d a b ha hb).1
theorem Z5w (s i:Nat):s.testBit i = decide (s / 2 ^ i % 2 = 1):=by rw [Nat.testBit_eq_decide_div_mod_eq]
end Go.Tw
namespace Go.Proofs
open Go.RowKit Go.Tw Go.Flow
def Q0k (b:Bool) (e:Int):Int:=if b then e else 0
theorem Q3n (w:World) (b:Bool) (x:Int) :
    Calls Tryz.prog 84 #[.bool b,.int .i64 x] w fun e w'=>e = .returned (.int .i64 (Q0k b x)) ∧ w = w':=by
 cases b <;>
 · go_enter Tryz.func84,Tryz.ntmps84
   go_wp2;go_ret;exact ⟨rfl,rfl⟩
set_option maxHeartbeats 400000 in
theorem first_any (w:World) (v:Value) (l:List Int) (hv:Q0f w v l) :
    Calls Tryz.prog 74 #[v] w fun e w'=>e = .returned (.int .i64 (Q0h l)) ∧ w = w':=by
 obtain ⟨A,cap,rfl,hl,hcap,hc⟩:=hv.opened;clear hv;go_enter Tryz.func74,Tryz.ntmps74;go_wp2
 go_loop [7] (fun i=>∃ k:Nat,k ≤ l.length ∧ i = .int .i64 k ∧ Q0h (l.drop k) = Q0h l) (fun i=>l.length - (intOf i).toNat)
 case atStart=>exact ⟨0,Nat.zero_le _,rfl,rfl⟩
 case round =>
  obtain ⟨k,hk,rfl,hr⟩:=hrel;have HR:=Lib.hid hr; clear hr
  by_cases hlt:k < l.length
  · obtain ⟨b,off,rfl,hcell⟩:=hc k hlt
    clear hc
    by_cases hx:ix l k = 0
    · have HX:=Lib.hid hx
      have hx1:(ix l k != 0) = false:=by simp [hx]
      clear hx;go_wp2;go_round
      case rel=>exact ⟨k + 1,by omega,by go_num,by rw [← HR.out,Q3q hlt,Q0h,if_pos HX.out]⟩
      case measure=>simp [intOf]; omega
    · have hx1:(ix l k != 0) = true:=by simp [hx]
      have HX:=Lib.hid hx; clear hx;go_wp2;go_ret;exact ⟨Q1f (by rw [← HR.out,Q3q hlt,Q0h,if_neg HX.out]),rfl⟩
  · clear hc
    go_wp2;go_ret;exact ⟨Q1f (by rw [← HR.out,List.drop_eq_nil_of_le (by omega)]; rfl),rfl⟩
theorem Q8h (w:World) (x a b:Int) :
    Calls Tryz.prog 89 #[.int .i64 x,.int .i64 a,.int .i64 b] w fun e w'=>e = .returned (.int .i64 (Q0m x a b)) ∧ w = w':=by
 unfold Q0m
 by_cases h1:x < a
 · rw [if_pos (.inl h1)]
   go_enter Tryz.func89,Tryz.ntmps89;go_wp2;go_ret;exact ⟨rfl,rfl⟩
 · by_cases h2:b < x
   · rw [if_pos (.inr h2)]
     go_enter Tryz.func89,Tryz.ntmps89;go_wp2;go_ret;exact ⟨rfl,rfl⟩
   · rw [if_neg (by omega)]
     go_enter Tryz.func89,Tryz.ntmps89;go_wp2;go_ret;exact ⟨rfl,rfl⟩
set_option maxHeartbeats 800000 in
theorem Q5g (w:World) (v:Value) (l:List Int) (n:Int) (hv:Q0f w v l) :
    Calls Tryz.prog 123 #[v,.int .i64 n] w fun e w'=>e = .returned (.int .i64 (Q1h l n)) ∧ Ext w w':=by
 obtain ⟨A,cap,rfl,hl,hcap,hc⟩:=hv.opened;clear hv;go_enter Tryz.func123,Tryz.ntmps123;go_wp2
 go_loop [10] (fun i=>∃ k:Nat,k ≤ l.length ∧ i = .int .i64 k ∧ Y7s (l.drop k) n = Y7s l n) (fun i=>l.length - (intOf i).toNat)
 case atStart=>exact ⟨0,Nat.zero_le _,rfl,rfl⟩
 case round =>
  obtain ⟨k,hk,rfl,hr⟩:=hrel;have HR:=Lib.hid hr; clear hr
  by_cases hlt:k < l.length
  · obtain ⟨b,off,rfl,hcell⟩:=hc k hlt
    clear hc
    by_cases h0:ix l k < 0
    · have HO:Hid (out1 (ix l k) n = true):=by unfold out1; exact decide_eq_true (.inl h0)
      go_wp2;go_ret;exact ⟨Q1f (by unfold Q1h; rw [← HR.out,Q3q hlt,Q8e,HO.out]; rfl),Ext.refl _⟩
    · by_cases h1:n ≤ ix l k
      · have HO:Hid (out1 (ix l k) n = true):=by unfold out1; exact decide_eq_true (.inr h1)
        go_wp2;go_ret;exact ⟨Q1f (by unfold Q1h; rw [← HR.out,Q3q hlt,Q8e,HO.out]; rfl),Ext.refl _⟩
      · have HO:Hid (out1 (ix l k) n = false):=by unfold out1; exact decide_eq_false (by omega)
        go_wp2;go_round
        case rel=>exact ⟨k + 1,by omega,by go_num,by rw [← HR.out,Q3q hlt,Q8e,HO.out,Bool.false_or]⟩
        case measure=>simp [intOf]; omega
  · have HO:Hid (Y7s l n = false):=by
     have:=HR.out;rw [List.drop_eq_nil_of_le (by omega)] at this
     exact this.symm
    clear HR;go_wp2
    go_loopw [7] (fun i wr=>∃ k:Nat,(k + 1 ≤ l.length ∨ k = 0) ∧ i = .int .i64 (k + 1:Nat) ∧ X5x (l.drop k) = X5x l ∧ Ext w wr) (fun i _=>l.length - (intOf i).toNat)
    case atStart=>exact ⟨0,.inr rfl,rfl,rfl,Ext.refl _⟩
    case round =>
     obtain ⟨m,hm,rfl,hr,hx⟩:=hrel;have HR:=Lib.hid hr; clear hr
     by_cases hlm:m + 1 < l.length
     · obtain ⟨b,off,rfl,hcell⟩:=hc m (by omega)
       obtain ⟨b',off',hA,hcell'⟩:=hc (m + 1) hlm;cases hA;clear hc;replace hcell:=hx.cell hcell;replace hcell':=hx.cell hcell';have i1:(0:Int) ≤ ((m + 1:Nat):Int):=by omega
       have i2:((m + 1:Nat):Int) < l.length:=by omega
       have i3:(0:Int) ≤ ((m + 1:Nat):Int) - 1:=by omega
       have i4:((m + 1:Nat):Int) - 1 < l.length:=by omega
       have i5:(((m + 1:Nat):Int) - 1).toNat = m:=by omega
       by_cases ha:ix l m < ix l (m + 1)
       · have HA:Hid (decide (ix l m < ix l (m + 1)) = true):=by exact decide_eq_true ha
         go_wp2
         go_quiet (fail)
         all_goals go_wp2
         go_roundw
         case rel=>exact ⟨m + 1,by omega,by go_num,by rw [← HR.out,X3w hlm,HA.out,Bool.true_and],hx.drewN _⟩
         case measure=>simp [intOf]; omega
       · have HA:Hid (decide (ix l m < ix l (m + 1)) = false):=by exact decide_eq_false ha
         have ha':ix l (m + 1) ≤ ix l m:=by omega
         go_wp2
         go_quiet (fail)
         all_goals go_wp2
         go_ret;exact ⟨Q1f (by unfold Q1h; rw [HO.out,← HR.out,X3w hlm,HA.out,Bool.false_and]; rfl),hx.drewN _⟩
     · clear hc
       have i2:(l.length:Int) ≤ ((m + 1:Nat):Int):=by omega
       go_wp2;go_ret;exact ⟨Q1f (by unfold Q1h; rw [HO.out,← HR.out,Y7a (by omega)]; rfl),hx⟩
end Go.Proofs
