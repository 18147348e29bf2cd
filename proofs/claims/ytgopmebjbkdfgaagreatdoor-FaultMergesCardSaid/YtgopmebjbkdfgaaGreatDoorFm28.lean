/- Contract: line. Contracts: Print's closure, mapped(basics, it). Laws ahead of Print: an append that grows, the parts of a valid tree. -/
import Derived.Test.YtgopmebjbkdfgaaGreatDoorFm27
set_option maxRecDepth 1000000
set_option maxHeartbeats 64000000
set_option linter.unusedVariables false
set_option linter.unusedSimpArgs false
set_option linter.constructorNameAsVariable false
namespace Go.Proofs
open Go.RowKit Go.Tw Go.Flow
def X6o (xs:List ByteArray) (sep:ByteArray):ByteArray:=⟨(Lib.join (xs.map (·.data.toList)) sep.data.toList).toArray⟩
def spS:ByteArray:=⟨#[32]⟩
def nlS:ByteArray:=⟨#[10]⟩
def Q7b (a b:ByteArray) (l:List Int):List ByteArray:=a :: b :: l.map Q7t
def lineS (a b:ByteArray) (l:List Int):ByteArray:=X6o (Q7b a b l) spS ++ nlS
theorem Y4w {B:Nat}:∀ {xs:List ByteArray},(∀ x ∈ xs,x.size <= B) -> Lib.lens (xs.map (·.data.toList)) <= B * xs.length
 | [],_=>by simp [Lib.lens]
 | x :: xs,h=>by
   have h1:=Y4w (xs:=xs) fun y hy=>h y (List.mem_cons_of_mem _ hy);have h2:=h x (List.mem_cons_self ..);have h3:x.data.toList.length = x.size:=Array.length_toList;simp only [Lib.lens,List.map_cons,List.sum_cons,List.length_cons,Nat.mul_succ] at h1 ⊢;omega
theorem X9a {x:Int} (h0:0 <= x) (h1:x < 100):(Q7t x).size <= 2:=by
 have h:(Q7t x).size = (Lib.decDigits x.toNat).length:=by simp [Q7t,ByteArray.size]
 rw [h,Lib.decDigits_length];have h2:x.toNat < 100:=by omega
 rw [Lib.nDigits]
 split
 . omega
 . rw [Lib.nDigits,dif_pos (by omega)]
   omega
theorem Y6h (w:World) (base:Nat) (v:Value) (xs:List ByteArray) (sep:ByteArray) (hv:Q0r w base 9 .string v xs) (hl:xs.length <= 4096) (hne:xs ≠ []) (hs:∀ x ∈ xs,x.size <= 5000000) (hsep:sep.size <= 16) :
    Calls Tryz.prog 80 #[v,.string sep] w fun e w'=>e = .returned (.string (X6o xs sep)) /\ Ext w w':=by
 rcases hv.cells2 with ⟨_,h⟩ | ⟨g,c,rfl,hcap,hb,hg,hc⟩
 . exact absurd h hne
 . refine Tryz.strings_Join g 0 c xs sep w (fun j x hx=>?_) hg (by omega) hcap ?_
   . obtain ⟨hj,rfl⟩:=List.getElem?_eq_some_iff.1 hx
     exact hc j hj
   . cases xs with
     | nil=>exact absurd rfl hne
     | cons x r =>
       have h1:=Y4w hs;have h2:sep.data.toList.length = sep.size:=Array.length_toList;have h4:sep.size * r.length <= 16 * 4096:=Nat.mul_le_mul hsep (by rw [List.length_cons] at hl; omega)
       have h5:5000000 * (x :: r).length <= 5000000 * 4096:=Nat.mul_le_mul_left _ hl;rw [List.map_cons,Lib.join_length,List.length_map,h2];rw [List.map_cons] at h1;omega
theorem X3a {xs:List ByteArray} {sep:ByteArray} {B:Nat} (hl:xs.length <= 4096) (hs:∀ x ∈ xs,x.size <= B) (hsep:sep.size <= 16):(X6o xs sep).size <= 65536 + B * 4096:=by
 have h0:(X6o xs sep).size = (Lib.join (xs.map (·.data.toList)) sep.data.toList).length:=by simp [X6o,ByteArray.size]
 rw [h0];cases xs with
 | nil=>simp [Lib.join_nil]
 | cons x r =>
   have h1:=Y4w hs;have h2:sep.data.toList.length = sep.size:=Array.length_toList;have h4:sep.size * r.length <= 16 * 4096:=Nat.mul_le_mul hsep (by rw [List.length_cons] at hl; omega)
   have h5:B * (x :: r).length <= B * 4096:=Nat.mul_le_mul_left _ hl;rw [List.map_cons,Lib.join_length,List.length_map,h2];rw [List.map_cons] at h1;omega
theorem Y7p {a b:ByteArray} {l:List Int} (ha:a.size <= 1000) (hb:b.size <= 1000) (hm:∀ x ∈ l,0 <= x /\ x < 100):∀ x ∈ Q7b a b l,x.size <= 1000:=by
 intro x hx
 rcases List.mem_cons.1 hx with rfl | hx
 . exact ha
 . rcases List.mem_cons.1 hx with rfl | hx
   . exact hb
   . obtain ⟨y,hy,rfl⟩:=List.mem_map.1 hx
     have h:=hm y hy;have:=X9a h.1 h.2;omega
theorem X3m {a b:ByteArray} {l:List Int} (hl:l.length <= 1000) (ha:a.size <= 1000) (hb:b.size <= 1000) (hm:∀ x ∈ l,0 <= x /\ x < 100):(lineS a b l).size <= 5000000:=by
 have h1:=X3a (xs:=Q7b a b l) (sep:=spS) (by simp [Q7b]; omega) (Y7p ha hb hm) (by decide)
 have h2:(lineS a b l).size = (X6o (Q7b a b l) spS).size + 1:=by unfold lineS; rw [ByteArray.size_append]; rfl
 omega
theorem Z3r {w:World} {T:TypeId} {l:List ByteArray} (hl:l.length <= 1000):Q0r (w.alloc (.cells (l.map Value.string).toArray T)) w.heap.size T .string (.slice (some ⟨w.heap.size,0,none⟩) l.length l.length) l :=
 ⟨by simp,.inr ⟨w.heap.size,l.length,(l.map Value.string).toArray,rfl,Nat.le_refl _,heap_alloc_new w _,Nat.le_refl _,by unfold maxLen; omega,by simp,by rw [Nat.mul_one,List.take_of_length_le (by simp)]⟩⟩
theorem Y0d (w:World) (a b:ByteArray) (v:Value) (l:List Int) (hv:Q0f w v l) (hle:l.length <= 1000) (hne:l ≠ []) (hm:∀ x ∈ l,0 <= x /\ x < 100) (ha:a.size <= 1000) (hb:b.size <= 1000) :
    Calls Tryz.prog 82 #[.string a,.string b,v] w fun e w'=>e = .returned (.string (lineS a b l)) /\ Ext w w':=by
 obtain ⟨i0,hi,hz0,hz1,hz2⟩:=info_parts Tryz.X1v;obtain ⟨A,cap,rfl,hl,hcap,hc⟩:=hv.opened;have HV:=Lib.hid (hv.ext (Ext.box w (.cells #[.string a,.string b] 9)));have HM:=Lib.hid hm;have HN:=Lib.hid hne;clear hv hc hm hne;go_enter Tryz.func82,Tryz.ntmps82;go_wp2_with fail;refine (Y3s _ _ l HV.out (by omega) HM.out).mono ?_
 rintro e w3 ⟨u,rfl,hu,hx3⟩;have hown:Q0r w3 w.heap.size 9 .string (.slice (some ⟨w.heap.size,0,none⟩) 2 2) [a,b]:=(Z3r (w:=w) (l:=[a,b]) (by simp)).below hx3
 have HX3:=Lib.hid ((Ext.box w (.cells #[.string a,.string b] 9)).trans hx3)
 rcases hu.cells2 with ⟨_,h⟩ | ⟨g,c,rfl,hcap2,hbb,hg,hc⟩
 . exact absurd (List.map_eq_nil_iff.1 h) HN.out
 . have hlm:(l.map Q7t).length = l.length:=List.length_map _
   have HC:=Lib.hid hc;have hlen2:((l.map Q7t).map Value.string).length = l.length * 1:=by simp
   have HL2:=Lib.hid hlen2;have HSRC:Hid (∀ j u,((l.map Q7t).map Value.string)[j]? = some u -> w3.cell? ((⟨g,0,none⟩:Addr).add j) = some u):=by
    exact (by
     intro j u hj;rw [List.getElem?_map] at hj;obtain ⟨y,hy,rfl⟩:=Option.map_eq_some_iff.1 hj;obtain ⟨hjl,rfl⟩:=List.getElem?_eq_some_iff.1 hy;rw [addr_add];exact HC.out j hjl:∀ j u,((l.map Q7t).map Value.string)[j]? = some u -> w3.cell? ((⟨g,0,none⟩:Addr).add j) = some u)
   have HONE:Hid (∀ u ∈ (l.map Q7t).map Value.string,u.oneCell' = true):=by
    exact (by intro u hu; obtain ⟨y,_,rfl⟩:=List.mem_map.1 hu; rfl:∀ u ∈ (l.map Q7t).map Value.string,u.oneCell' = true)
   have hws:w.heap.size <= w3.heap.size:=HX3.out.size;clear hc hlen2 hu;go_wp2_with (at_builtin; refine wpList_append_own _ rfl _ _ 72 rfl (w.heap.size) 9 i0 (.string emp) 1 16 Tryz.underlying72 hi hz0 hz1 hz2 rfl (by decide) _ _ _ rfl hown ⟨g,0,none⟩ l.length c ((l.map Q7t).map Value.string) rfl HL2.out HSRC.out HONE.out ?_ ?_ ?_ ?_; (focus (unfold maxLen; simp; omega)); (focus (simp; omega)); (focus exact hws); intro v' w4 hown' hgrow _; refine halted ?_)
   have hx4:Ext w w4:=Below.trans HX3.out (below_grown hown hgrow (Nat.le_refl _) hws);have hl3:(Q7b a b l).length = l.length + 2:=by simp [Q7b]
   have hown2:Q0r w4 w.heap.size 9 .string v' (Q7b a b l):=by
    unfold Q0r;rw [hl3,show l.length + 2 = 2 + l.length from Nat.add_comm _ _]
    exact hown'
   have hsz:∀ x ∈ Q7b a b l,x.size <= 5000000:=by
    intro x hx
    rcases List.mem_cons.1 hx with rfl | hx
    . omega
    . rcases List.mem_cons.1 hx with rfl | hx
      . omega
      . obtain ⟨y,hy,rfl⟩:=List.mem_map.1 hx
        have h:=HM.out y hy;have:=X9a h.1 h.2;omega
   have HJ:Hid (Calls Tryz.prog 80 #[v',.string ⟨#[32]⟩] w4 fun e w'=>e = .returned (.string (X6o (Q7b a b l) spS)) /\ Ext w4 w'):=by
    exact (Y6h w4 w.heap.size v' (Q7b a b l) spS hown2 (by omega) (by simp [Q7b]) hsz (by decide):Calls Tryz.prog 80 #[v',.string ⟨#[32]⟩] w4 fun e w'=>e = .returned (.string (X6o (Q7b a b l) spS)) /\ Ext w4 w')
   have HX4:=Lib.hid hx4;have hjs:=X3a (xs:=Q7b a b l) (sep:=spS) (B:=5000000) (by omega) hsz (by decide)
   have HLN:Hid (lineS a b l = X6o (Q7b a b l) spS ++ nlS):=Lib.hid (rfl);clear hown' hgrow hx4 hl3 hown2 hsz hown;unfold Q3g;go_wp2_with fail;refine HJ.out.mono ?_;rintro e w5 ⟨rfl,hx5⟩;generalize X6o (Q7b a b l) spS = js at HLN hjs ⊢;have hjs2:js.size + 1 <= 9223372036854775807:=by omega
   have hjs3:js.size < 9223372036854775807:=by omega
   go_wp2;go_ret;exact ⟨by rw [HLN.out]; rfl,HX4.out.trans hx5⟩
end Go.Proofs
namespace Go.Proofs
open Go.RowKit Go.Tw Go.Flow
def X7s:ByteArray:=⟨#[98,97,115,105,99]⟩
def Y2h:ByteArray:=⟨#[99,97,117,115,101]⟩
def Z2l:ByteArray:=⟨#[103,97,116,101]⟩
def X3d (b:Basic):ByteArray:=lineS X7s b.name [b.chance]
theorem Y7t (w:World) (nm:ByteArray) (ch:Int) (h0:0 <= ch) (h1:ch < 100) (hn:nm.size <= 1000) :
    Calls Tryz.prog 81 #[.agg #[.string nm,.int .i64 ch]] w fun e w'=>e = .returned (.string (lineS X7s nm [ch])) /\ Ext w w':=by
 have hk:=Blk.made w 103 #[.string nm,.int .i64 ch];have hx1:=Ext.box w (.cells #[.string nm,.int .i64 ch] 103);have c0:=hk.cell 0;have c1:=hk.cell 1;simp only [Go.Tw.gA,Go.Tw.gB,Go.Tw.gC] at c0 c1;clear hk;go_enter Tryz.func81,Tryz.ntmps81;go_wp2_with fail;have hi:=Q3b (w:=w.alloc (.cells #[.string nm,.int .i64 ch] 103)) (T:=3) (l:=[ch]) (by simp)
 have hs:(w.alloc (.cells #[.string nm,.int .i64 ch] 103)).heap.size = w.heap.size + 1:=by simp
 rw [hs] at hi;refine (Y0d _ X7s nm _ [ch] hi (by simp) (by simp) (by intro x hx; rw [List.mem_singleton] at hx; rw [hx]; exact ⟨h0,h1⟩) (by decide) hn).mono ?_
 rintro e w5 ⟨rfl,hx5⟩;have hx:=(hx1.trans (Ext.box _ _)).trans hx5;obtain ⟨ls,hls⟩:∃ x,lineS X7s nm [ch] = x:=⟨_,rfl⟩;rw [hls];have HX:=Lib.hid hx;have HLS:=Lib.hid hls;clear hi hx5 c0 c1 hx1 hx hls;go_wp2;go_ret;exact ⟨by rw [HLS.out]; rfl,HX.out⟩
theorem Z0b (l:List Basic) {k:Nat} (hk:k < l.length):(l.map X3d).take k ++ [lineS X7s (bName l k) [Q1j l k]] = (l.map X3d).take (k + 1):=by
 rw [List.take_succ_eq_append_getElem (by simpa using hk)]
 unfold bName Q1j;rw [getD_at hk];simp [X3d]
theorem Y4e (w:World) (v:Value) (l:List Basic) (hv:Q2j w v l) (hle:l.length <= 1000) (hm:∀ k,k < l.length -> 0 <= Q1j l k /\ Q1j l k < 100 /\ (bName l k).size <= 1000) :
    Calls Tryz.prog 53 #[v,.func (.func 81) #[] #[]] w fun e w'=>∃ x,e = .returned x /\ Q0r w' w.heap.size 9 .string x (l.map X3d) /\ Ext w w':=by
 obtain ⟨i0,hi,hz0,hz1,hz2⟩:=info_parts Tryz.X1v;obtain ⟨A,cap,rfl,hl,hcap,hc⟩:=hv.opened;have HC:=Lib.hid hc;have HM:=Lib.hid hm;clear hv hc hm;go_enter Tryz.func53,Tryz.ntmps53;go_wp2
 go_loopw [5,10] (fun o i wr=>∃ (k:Nat),k <= l.length /\ i = .int .i64 k /\ Q0r wr w.heap.size 9 .string o ((l.map X3d).take k) /\ Ext w wr) (fun _ i _=>l.length - (intOf i).toNat)
 case atStart=>exact ⟨0,Nat.zero_le _,rfl,Q0r.nil _ _ _ _,Ext.refl _⟩
 case round =>
  obtain ⟨k,hk,rfl,hown,hx⟩:=hrel;have hlen:((l.map X3d).take k).length = k:=by rw [List.length_take,List.length_map]; omega
  by_cases hlt:k < l.length
  . obtain ⟨b,off,rfl,hbw,e0,e1,hsh⟩:=HC.out k hlt
    have HTK:=Lib.hid (Z0b l hlt);have hmm:=HM.out k hlt;obtain ⟨nm,hnm⟩:∃ s,bName l k = s:=⟨_,rfl⟩;obtain ⟨ch,hch⟩:∃ s,Q1j l k = s:=⟨_,rfl⟩;rw [hnm] at e0 hmm HTK;rw [hch] at e1 hmm HTK;have HMM:=Lib.hid hmm;replace e0:=hx.cell e0;replace e1:=hx.cell e1;have hll:((l.map X3d).take k).length <= 4096:=by omega
    obtain ⟨is,his⟩:∃ x,lineS X7s nm [ch] = x:=⟨_,rfl⟩;rw [his] at HTK;have HIT:Hid (∀ w,Calls Tryz.prog 81 #[.agg #[.string nm,.int .i64 ch]] w fun e w'=>e = .returned (.string is) /\ Ext w w'):=Lib.hid (fun w=>by rw [<- his]; exact Y7t w nm ch HMM.out.1 HMM.out.2.1 HMM.out.2.2)
    clear hmm hlen his hnm hch hsh;go_wp2_with fail;refine (HIT.out _).mono ?_;rintro e w9 ⟨rfl,hx9⟩;have hbx:=(Ext.box wr (.cells #[.string nm,.int .i64 ch] 103)).trans hx9;have hown2:=hown.below hbx;have hxx:=hx.trans hbx;clear e0 e1 hown hbx hx9;go_wp2_with (at_builtin; refine wpList_append_own _ rfl _ _ 72 rfl (w.heap.size) 9 i0 (.string emp) 1 16 Tryz.underlying72 hi hz0 hz1 hz2 rfl (by decide) _ _ _ rfl (World.ownsRow.alloc hown2 _) ⟨w9.heap.size,0,none⟩ 1 1 [.string is] rfl rfl ?_ ?_ ?_ ?_ ?_ ?_; exact Q7q _ _ _; (focus (simp [Value.oneCell'])); (focus (unfold maxLen; omega)); (focus omega); (focus (have:=hxx.size; simp at this ⊢; omega)); intro v' w1 hown' hgrow _)
    have hx':=Q4g hxx hown2 (Nat.le_refl _) hgrow;go_wp2;go_roundw
    case rel=>exact ⟨k + 1,by omega,by go_num,by rw [<- HTK.out]; exact Q0r.snoc hown',hx'⟩
    case measure=>simp [intOf]; omega
  . have HE:Hid ((l.map X3d).take k = l.map X3d):=Lib.hid (by rw [List.take_of_length_le (by rw [List.length_map]; omega)])
    rw [HE.out] at hown;have HOWN:=Lib.hid hown;clear hown hlen;go_wp2;go_ret;exact ⟨_,rfl,HOWN.out,hx⟩
end Go.Proofs
namespace Go.Tw
open Go.RowKit Go.Flow
theorem Q8f {P:Program} {K:Value -> World -> Prop} {o:Oper} {a:Act} {w:World} (s x:Operand) (t:TypeId) (ho:o.op = .call { callee:=.builtin .append,args:=#[s,x],argTypes:=#[t,t] }) (e:TypeId) (i:TypeInfo) (z:Value) (bytes:Nat) (ht:P.underlying t = some (.slice e)) (hi:P.info? e = some i) (hz:i.zero = some z)
    (hsize:i.size = 1) (hby:i.bytes = bytes) (hzs:z.cells.size = 1) {b:Addr} {n cap:Nat} (hs:a.eval s = .slice (some b) n cap) (olds:List Value) (hlo:olds.length = n * 1) (holds:∀ j u,olds[j]? = some u -> w.cell? (b.add j) = some u)
    {ad:Addr} {m c:Nat} (hx:a.eval x = .slice (some ad) m c) (news:List Value) (hl:news.length = m * 1) (hnews:∀ j u,news[j]? = some u -> w.cell? (ad.add j) = some u) (hg:cap < n + m) (h63:n + m <= maxLen) (hbytes:(n + m) * bytes <= 140737488355328)
    (h:∀ v' w',w'.ownsRow w.heap.size e 1 v' (n + m) (olds ++ news) -> w.grownBy w' none -> K v' w'):gives P K ((execOp a.eval o).run P w):=by
 obtain ⟨v',w',hr,h2,h3⟩:=run_append_arg_grows (P:=P) (w:=w) t o.type e i z 1 bytes ht hi hz hsize hby hzs (by decide) b n cap olds hlo holds ad m c news hl hnews hg h63 hbytes
 unfold execOp;simp only [ho,resolve,invoke,builtin,Sem.run_bind,Sem.run_pure,Result.andThen_ok,List.map_toArray,List.map_cons,List.map_nil,hs,hx,hr];exact h v' w' h2 h3
end Go.Tw
namespace Go.Proofs
open Go.RowKit Go.Tw Go.Flow
def Y8d (w:World) (v:Value) (ch:Int):Prop:=∃ g,v = .slice (some ⟨g,0,none⟩) 1 1 /\ w.cell? ⟨g,0,none⟩ = some (.int .i64 ch)
theorem Y8d.ext {w w':World} {v:Value} {ch:Int} (h:Y8d w v ch) (hx:Ext w w'):Y8d w' v ch:=let ⟨g,h1,h2⟩:=h; ⟨g,h1,hx.cell h2⟩
theorem Y8d.new (w:World) (T:TypeId) (ch:Int):Y8d (w.alloc (.cells #[.int .i64 ch] T)) (.slice (some ⟨w.heap.size,0,none⟩) 1 1) ch:=⟨_,rfl,(Blk.made w T #[.int .i64 ch]).cell 0⟩
theorem Y9x:∀ (l:List Int) (x n:Int),X8j (x :: l) = true -> (∀ y ∈ x :: l,y < n) -> ((x :: l).length:Int) <= n - x
 | [],x,n,_,h=>by have:=h x (by simp); simp; omega
 | y :: l,x,n,ha,h=>by
   rw [X8j,Bool.and_eq_true,decide_eq_true_eq] at ha;have:=Y9x l y n ha.2 fun z hz=>h z (List.mem_cons_of_mem _ hz);simp only [List.length_cons] at this ⊢;omega
theorem Y1y {s:ByteArray} (h:Q3r s = 0):s.size <= 24:=by
 have hs:s.size = s.data.toList.length:=Array.length_toList.symm;have hb:nameB s = true:=by
  cases hq:nameB s with
  | true=>rfl
  | false=>unfold Q3r at h; rw [hq] at h; simp at h
 rw [hs];unfold nameB at hb;cases hl:s.data.toList with
 | nil=>simp
 | cons c l =>
   rw [hl] at hb;simp only [Bool.and_eq_true,decide_eq_true_eq] at hb;rw [List.length_cons];omega
theorem _root_.Go.Tw.Valid.cause {t:Tree} (h:Valid t) {k:Nat} (hk:k < t.causes.length):(0 <= Q1l t.causes k /\ Q1l t.causes k < 100) /\ Q0e t.causes k ≠ [] /\ (Q0e t.causes k).length <= 12 /\ (∀ x ∈ Q0e t.causes k,0 <= x /\ x < 100) /\ (cName t.causes k).size <= 24:=by
 have hs:=h.size;unfold Tree.size at hs;have he:=h.event (t.basics.length + k) (by unfold Tree.size; omega)
 have hc:=h.chance (i:=t.basics.length + k) (by unfold Tree.size; omega)
 unfold Tree.Q1i at he;rw [Q1c] at he;have h1:=Y1y (he _ (List.mem_cons_self ..));have h2:=he (if t.basics.length + k < t.basics.length then 0 else Q2y (Q0e t.causes (t.basics.length + k - t.basics.length)) t.basics.length) (by simp)
 rw [if_neg (by omega),show t.basics.length + k - t.basics.length = k by omega] at h2
 unfold Tree.nameAt at h1;rw [if_neg (by omega),show t.basics.length + k - t.basics.length = k by omega] at h1
 unfold Tree.Q1h at hc;rw [if_neg (by omega),show t.basics.length + k - t.basics.length = k by omega] at hc
 obtain ⟨hne,hse⟩:=Q6q h2;obtain ⟨hr,ha⟩:=Q2z hse;refine ⟨⟨by omega,by omega⟩,hne,?_,fun x hx=>?_,h1⟩
 . cases hm:Q0e t.causes k with
   | nil=>simp
   | cons x l =>
     rw [hm] at ha hr;have:=Y9x l x t.basics.length ha fun y hy=>(hr y hy).2;have:=(hr x (by simp)).1
     omega
 . have:=hr x hx; omega
theorem _root_.Go.Tw.Valid.basic {t:Tree} (h:Valid t) {k:Nat} (hk:k < t.basics.length):0 <= Q1j t.basics k /\ Q1j t.basics k < 100 /\ (bName t.basics k).size <= 1000:=by
 have he:=h.event k (by unfold Tree.size; omega)
 have hc:=h.chance (i:=k) (by unfold Tree.size; omega)
 unfold Tree.Q1i at he;rw [Q1c] at he;have h1:=Y1y (he _ (List.mem_cons_self ..));unfold Tree.nameAt at h1;rw [if_pos hk] at h1;unfold Tree.Q1h at hc;rw [if_pos hk] at hc;omega
theorem Z1p {s:ByteArray} (h:Q9g s = true):s.size <= 4:=by
 unfold Q9g at h
 by_cases h1:s = Q8x
 . rw [h1]; decide
 . by_cases h2:s = sOr
   . rw [h2]; decide
   . by_cases h3:s = Q6w
     . rw [h3]; decide
     . rw [Q3c h1,Q3c h2,Q3c h3] at h
       cases h
theorem _root_.Go.Tw.Valid.Y1j {t:Tree} (h:Valid t) {k:Nat} (hk:k < t.gates.length):(0 <= Q3e t.gates k /\ Q3e t.gates k < 100) /\ Q0i t.gates k ≠ [] /\ (Q0i t.gates k).length <= 12 /\ (∀ x ∈ Q0i t.gates k,0 <= x /\ x < 100) /\ (Q2f t.gates k).size <= 24:=by
 have h1:=Valid.need h hk;obtain ⟨hne,_⟩:=Q6q (h.inputs hk);have h2:=h.X5e hk;have h3:=Z1p (Valid.kind h hk);refine ⟨⟨by omega,by omega⟩,hne,h1.1,fun x hx=>?_,by omega⟩
 have:=h2.2 x hx;omega
def Q5j (t:Tree) (s:ByteArray):Nat -> ByteArray
 | 0=>s
 | k + 1=>Q5j t s k ++ lineS Y2h (cName t.causes k) (Q1l t.causes k :: Q0e t.causes k)
def Q7p (t:Tree) (s:ByteArray):Nat -> ByteArray
 | 0=>s
 | k + 1=>Q7p t s k ++ lineS Z2l (Q2f t.gates k) (Q3e t.gates k :: Q0i t.gates k)
def X8t (t:Tree):ByteArray:=X6o (t.basics.map X3d) emp
def X6f (t:Tree):ByteArray:=if t.err = 0 then Q7p t (Q5j t (X8t t) t.causes.length) t.gates.length else emp
end Go.Proofs
