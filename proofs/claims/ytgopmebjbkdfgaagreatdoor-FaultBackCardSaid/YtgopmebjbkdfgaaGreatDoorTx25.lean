/- Contracts: Print's closure, mapped(basics, it). Laws ahead of Print: an append that grows, the parts of a valid tree. Contract: Print. Contracts of the reference: SameInts, SameBools. -/
import Derived.Test.YtgopmebjbkdfgaaGreatDoorTx24
set_option maxRecDepth 1000000
set_option maxHeartbeats 64000000
set_option linter.unusedVariables false
set_option linter.unusedSimpArgs false
set_option linter.constructorNameAsVariable false
namespace Go.Proofs
open Go.RowKit Go.Tw Go.Flow
def Q5n:ByteArray:=⟨#[98,97,115,105,99]⟩
def Q6h:ByteArray:=⟨#[99,97,117,115,101]⟩
def X0w:ByteArray:=⟨#[103,97,116,101]⟩
def Q8w (b:Basic):ByteArray:=lineS Q5n b.name [b.chance]
theorem Y7h (w:World) (nm:ByteArray) (ch:Int) (h0:0 <= ch) (h1:ch < 100) (hn:nm.size <= 1000) :
    Calls Tryz.prog 81 #[.agg #[.string nm,.int .i64 ch]] w fun e w'=>e = .returned (.string (lineS Q5n nm [ch])) /\ Ext w w':=by
 have hk:=Blk.made w 103 #[.string nm,.int .i64 ch];have hx1:=Ext.box w (.cells #[.string nm,.int .i64 ch] 103);have c0:=hk.cell 0;have c1:=hk.cell 1;simp only [Go.Tw.gA,Go.Tw.gB,Go.Tw.gC] at c0 c1;clear hk;go_enter Tryz.func81,Tryz.ntmps81;go_wp2_with fail;have hi:=Q3h (w:=w.alloc (.cells #[.string nm,.int .i64 ch] 103)) (T:=3) (l:=[ch]) (by simp)
 have hs:(w.alloc (.cells #[.string nm,.int .i64 ch] 103)).heap.size = w.heap.size + 1:=by simp
 rw [hs] at hi;refine (Y0d _ Q5n nm _ [ch] hi (by simp) (by simp) (by intro x hx; rw [List.mem_singleton] at hx; rw [hx]; exact ⟨h0,h1⟩) (by decide) hn).mono ?_
 rintro e w5 ⟨rfl,hx5⟩;have hx:=(hx1.trans (Ext.box _ _)).trans hx5;obtain ⟨ls,hls⟩:∃ x,lineS Q5n nm [ch] = x:=⟨_,rfl⟩;rw [hls];have HX:=Lib.hid hx;have HLS:=Lib.hid hls;clear hi hx5 c0 c1 hx1 hx hls;go_wp2;go_ret;exact ⟨by rw [HLS.out]; rfl,HX.out⟩
theorem Z0m (l:List Basic) {k:Nat} (hk:k < l.length):(l.map Q8w).take k ++ [lineS Q5n (bName l k) [Q1b l k]] = (l.map Q8w).take (k + 1):=by
 rw [List.take_succ_eq_append_getElem (by simpa using hk)]
 unfold bName Q1b;rw [getD_at hk];simp [Q8w]
theorem Y3r (w:World) (v:Value) (l:List Basic) (hv:Q3m w v l) (hle:l.length <= 1000) (hm:∀ k,k < l.length -> 0 <= Q1b l k /\ Q1b l k < 100 /\ (bName l k).size <= 1000) :
    Calls Tryz.prog 53 #[v,.func (.func 81) #[] #[]] w fun e w'=>∃ x,e = .returned x /\ Q0s w' w.heap.size 9 .string x (l.map Q8w) /\ Ext w w':=by
 obtain ⟨i0,hi,hz0,hz1,hz2⟩:=info_parts Tryz.X9j;obtain ⟨A,cap,rfl,hl,hcap,hc⟩:=hv.opened;have HC:=Lib.hid hc;have HM:=Lib.hid hm;clear hv hc hm;go_enter Tryz.func53,Tryz.ntmps53;go_wp2
 go_loopw [5,10] (fun o i wr=>∃ (k:Nat),k <= l.length /\ i = .int .i64 k /\ Q0s wr w.heap.size 9 .string o ((l.map Q8w).take k) /\ Ext w wr) (fun _ i _=>l.length - (intOf i).toNat)
 case atStart=>exact ⟨0,Nat.zero_le _,rfl,Q0s.nil _ _ _ _,Ext.refl _⟩
 case round =>
  obtain ⟨k,hk,rfl,hown,hx⟩:=hrel;have hlen:((l.map Q8w).take k).length = k:=by rw [List.length_take,List.length_map]; omega
  by_cases hlt:k < l.length
  . obtain ⟨b,off,rfl,hbw,e0,e1,hsh⟩:=HC.out k hlt
    have HTK:=Lib.hid (Z0m l hlt);have hmm:=HM.out k hlt;obtain ⟨nm,hnm⟩:∃ s,bName l k = s:=⟨_,rfl⟩;obtain ⟨ch,hch⟩:∃ s,Q1b l k = s:=⟨_,rfl⟩;rw [hnm] at e0 hmm HTK;rw [hch] at e1 hmm HTK;have HMM:=Lib.hid hmm;replace e0:=hx.cell e0;replace e1:=hx.cell e1;have hll:((l.map Q8w).take k).length <= 4096:=by omega
    obtain ⟨is,his⟩:∃ x,lineS Q5n nm [ch] = x:=⟨_,rfl⟩;rw [his] at HTK;have HIT:Hid (∀ w,Calls Tryz.prog 81 #[.agg #[.string nm,.int .i64 ch]] w fun e w'=>e = .returned (.string is) /\ Ext w w'):=Lib.hid (fun w=>by rw [<- his]; exact Y7h w nm ch HMM.out.1 HMM.out.2.1 HMM.out.2.2)
    clear hmm hlen his hnm hch hsh;go_wp2_with fail;refine (HIT.out _).mono ?_;rintro e w9 ⟨rfl,hx9⟩;have hbx:=(Ext.box wr (.cells #[.string nm,.int .i64 ch] 103)).trans hx9;have hown2:=hown.below hbx;have hxx:=hx.trans hbx;clear e0 e1 hown hbx hx9;go_wp2_with (at_builtin; refine wpList_append_own _ rfl _ _ 72 rfl (w.heap.size) 9 i0 (.string emp) 1 16 Tryz.underlying72 hi hz0 hz1 hz2 rfl (by decide) _ _ _ rfl (World.ownsRow.alloc hown2 _) ⟨w9.heap.size,0,none⟩ 1 1 [.string is] rfl rfl ?_ ?_ ?_ ?_ ?_ ?_; exact Q5k _ _ _; (focus (simp [Value.oneCell'])); (focus (unfold maxLen; omega)); (focus omega); (focus (have:=hxx.size; simp at this ⊢; omega)); intro v' w1 hown' hgrow _)
    have hx':=Q3u hxx hown2 (Nat.le_refl _) hgrow;go_wp2;go_roundw
    case rel=>exact ⟨k + 1,by omega,by go_num,by rw [<- HTK.out]; exact Q0s.snoc hown',hx'⟩
    case measure=>simp [intOf]; omega
  . have HE:Hid ((l.map Q8w).take k = l.map Q8w):=Lib.hid (by rw [List.take_of_length_le (by rw [List.length_map]; omega)])
    rw [HE.out] at hown;have HOWN:=Lib.hid hown;clear hown hlen;go_wp2;go_ret;exact ⟨_,rfl,HOWN.out,hx⟩
end Go.Proofs
namespace Go.Tw
open Go.RowKit Go.Flow
theorem Q3y {P:Program} {K:Value -> World -> Prop} {o:Oper} {a:Act} {w:World} (s x:Operand) (t:TypeId) (ho:o.op = .call { callee:=.builtin .append,args:=#[s,x],argTypes:=#[t,t] }) (e:TypeId) (i:TypeInfo) (z:Value) (bytes:Nat) (ht:P.underlying t = some (.slice e)) (hi:P.info? e = some i) (hz:i.zero = some z)
    (hsize:i.size = 1) (hby:i.bytes = bytes) (hzs:z.cells.size = 1) {b:Addr} {n cap:Nat} (hs:a.eval s = .slice (some b) n cap) (olds:List Value) (hlo:olds.length = n * 1) (holds:∀ j u,olds[j]? = some u -> w.cell? (b.add j) = some u)
    {ad:Addr} {m c:Nat} (hx:a.eval x = .slice (some ad) m c) (news:List Value) (hl:news.length = m * 1) (hnews:∀ j u,news[j]? = some u -> w.cell? (ad.add j) = some u) (hg:cap < n + m) (h63:n + m <= maxLen) (hbytes:(n + m) * bytes <= 140737488355328)
    (h:∀ v' w',w'.ownsRow w.heap.size e 1 v' (n + m) (olds ++ news) -> w.grownBy w' none -> K v' w'):gives P K ((execOp a.eval o).run P w):=by
 obtain ⟨v',w',hr,h2,h3⟩:=run_append_arg_grows (P:=P) (w:=w) t o.type e i z 1 bytes ht hi hz hsize hby hzs (by decide) b n cap olds hlo holds ad m c news hl hnews hg h63 hbytes
 unfold execOp;simp only [ho,resolve,invoke,builtin,Sem.run_bind,Sem.run_pure,Result.andThen_ok,List.map_toArray,List.map_cons,List.map_nil,hs,hx,hr];exact h v' w' h2 h3
end Go.Tw
namespace Go.Proofs
open Go.RowKit Go.Tw Go.Flow
def X6n (w:World) (v:Value) (ch:Int):Prop:=∃ g,v = .slice (some ⟨g,0,none⟩) 1 1 /\ w.cell? ⟨g,0,none⟩ = some (.int .i64 ch)
theorem X6n.ext {w w':World} {v:Value} {ch:Int} (h:X6n w v ch) (hx:Ext w w'):X6n w' v ch:=let ⟨g,h1,h2⟩:=h; ⟨g,h1,hx.cell h2⟩
theorem X6n.new (w:World) (T:TypeId) (ch:Int):X6n (w.alloc (.cells #[.int .i64 ch] T)) (.slice (some ⟨w.heap.size,0,none⟩) 1 1) ch:=⟨_,rfl,(Blk.made w T #[.int .i64 ch]).cell 0⟩
theorem Y9h:∀ (l:List Int) (x n:Int),X7e (x :: l) = true -> (∀ y ∈ x :: l,y < n) -> ((x :: l).length:Int) <= n - x
 | [],x,n,_,h=>by have:=h x (by simp); simp; omega
 | y :: l,x,n,ha,h=>by
   rw [X7e,Bool.and_eq_true,decide_eq_true_eq] at ha;have:=Y9h l y n ha.2 fun z hz=>h z (List.mem_cons_of_mem _ hz);simp only [List.length_cons] at this ⊢;omega
theorem X4r {s:ByteArray} (h:Q3f s = 0):s.size <= 24:=by
 have hs:s.size = s.data.toList.length:=Array.length_toList.symm;have hb:nameB s = true:=by
  cases hq:nameB s with
  | true=>rfl
  | false=>unfold Q3f at h; rw [hq] at h; simp at h
 rw [hs];unfold nameB at hb;cases hl:s.data.toList with
 | nil=>simp
 | cons c l =>
   rw [hl] at hb;simp only [Bool.and_eq_true,decide_eq_true_eq] at hb;rw [List.length_cons];omega
theorem _root_.Go.Tw.Valid.cause {t:Tree} (h:Valid t) {k:Nat} (hk:k < t.causes.length):(0 <= Q1k t.causes k /\ Q1k t.causes k < 100) /\ Q0f t.causes k ≠ [] /\ (Q0f t.causes k).length <= 12 /\ (∀ x ∈ Q0f t.causes k,0 <= x /\ x < 100) /\ (cName t.causes k).size <= 24:=by
 have hs:=h.size;unfold Tree.size at hs;have he:=h.event (t.basics.length + k) (by unfold Tree.size; omega)
 have hc:=h.chance (i:=t.basics.length + k) (by unfold Tree.size; omega)
 unfold Tree.Q1f at he;rw [Q1h] at he;have h1:=X4r (he _ (List.mem_cons_self ..));have h2:=he (if t.basics.length + k < t.basics.length then 0 else Q2r (Q0f t.causes (t.basics.length + k - t.basics.length)) t.basics.length) (by simp)
 rw [if_neg (by omega),show t.basics.length + k - t.basics.length = k by omega] at h2
 unfold Tree.nameAt at h1;rw [if_neg (by omega),show t.basics.length + k - t.basics.length = k by omega] at h1
 unfold Tree.Q1g at hc;rw [if_neg (by omega),show t.basics.length + k - t.basics.length = k by omega] at hc
 obtain ⟨hne,hse⟩:=Q6e h2;obtain ⟨hr,ha⟩:=Q2x hse;refine ⟨⟨by omega,by omega⟩,hne,?_,fun x hx=>?_,h1⟩
 . cases hm:Q0f t.causes k with
   | nil=>simp
   | cons x l =>
     rw [hm] at ha hr;have:=Y9h l x t.basics.length ha fun y hy=>(hr y hy).2;have:=(hr x (by simp)).1
     omega
 . have:=hr x hx; omega
theorem _root_.Go.Tw.Valid.basic {t:Tree} (h:Valid t) {k:Nat} (hk:k < t.basics.length):0 <= Q1b t.basics k /\ Q1b t.basics k < 100 /\ (bName t.basics k).size <= 1000:=by
 have he:=h.event k (by unfold Tree.size; omega)
 have hc:=h.chance (i:=k) (by unfold Tree.size; omega)
 unfold Tree.Q1f at he;rw [Q1h] at he;have h1:=X4r (he _ (List.mem_cons_self ..));unfold Tree.nameAt at h1;rw [if_pos hk] at h1;unfold Tree.Q1g at hc;rw [if_pos hk] at hc;omega
theorem Z0r {s:ByteArray} (h:Q8j s = true):s.size <= 4:=by
 unfold Q8j at h
 by_cases h1:s = X0g
 . rw [h1]; decide
 . by_cases h2:s = sOr
   . rw [h2]; decide
   . by_cases h3:s = Q6b
     . rw [h3]; decide
     . rw [Q5e h1,Q5e h2,Q5e h3] at h
       cases h
theorem _root_.Go.Tw.Valid.Z3q {t:Tree} (h:Valid t) {k:Nat} (hk:k < t.gates.length):(0 <= Q3e t.gates k /\ Q3e t.gates k < 100) /\ Q0m t.gates k ≠ [] /\ (Q0m t.gates k).length <= 12 /\ (∀ x ∈ Q0m t.gates k,0 <= x /\ x < 100) /\ (Q2f t.gates k).size <= 24:=by
 have h1:=Valid.need h hk;obtain ⟨hne,_⟩:=Q6e (h.inputs hk);have h2:=h.X4d hk;have h3:=Z0r (Valid.kind h hk);refine ⟨⟨by omega,by omega⟩,hne,h1.1,fun x hx=>?_,by omega⟩
 have:=h2.2 x hx;omega
def Q3d (t:Tree) (s:ByteArray):Nat -> ByteArray
 | 0=>s
 | k + 1=>Q3d t s k ++ lineS Q6h (cName t.causes k) (Q1k t.causes k :: Q0f t.causes k)
def Q4p (t:Tree) (s:ByteArray):Nat -> ByteArray
 | 0=>s
 | k + 1=>Q4p t s k ++ lineS X0w (Q2f t.gates k) (Q3e t.gates k :: Q0m t.gates k)
def X5x (t:Tree):ByteArray:=X1p (t.basics.map Q8w) emp
def Q7m (t:Tree):ByteArray:=if t.err = 0 then Q4p t (Q3d t (X5x t) t.causes.length) t.gates.length else emp
end Go.Proofs
namespace Go.Proofs
open Go.RowKit Go.Tw Go.Flow
theorem Q7l {w w':World} (hg:w.grownBy w' none):Ext w w':=by
 obtain ⟨h1,h2,h3,h4,h5⟩:=hg;exact ⟨h1,h2,h3,h4,fun k hk=>h5 k hk (by simp)⟩
theorem X2s {t:Tree} (hv:Valid t) {k:Nat} (hk:k < t.causes.length):(lineS Q6h (cName t.causes k) (Q1k t.causes k :: Q0f t.causes k)).size <= 5000000:=by
 have h:=hv.cause hk;exact Q8a (by rw [List.length_cons]; omega) (by decide) (by omega) fun x hx=>by
  rcases List.mem_cons.1 hx with rfl | hx
  . exact h.1
  . exact h.2.2.2.1 x hx
theorem X2c {t:Tree} (hv:Valid t) {k:Nat} (hk:k < t.gates.length):(lineS X0w (Q2f t.gates k) (Q3e t.gates k :: Q0m t.gates k)).size <= 5000000:=by
 have h:=hv.Z3q hk;exact Q8a (by rw [List.length_cons]; omega) (by decide) (by omega) fun x hx=>by
  rcases List.mem_cons.1 hx with rfl | hx
  . exact h.1
  . exact h.2.2.2.1 x hx
theorem Q5o {t:Tree} (hv:Valid t) (s:ByteArray):∀ k,k <= t.causes.length -> (Q3d t s k).size <= s.size + k * 5000000
 | 0,_=>by simp [Q3d]
 | k + 1,h=>by
   have h1:=Q5o hv s k (by omega)
   have h2:=X2s hv (k:=k) (by omega)
   rw [Q3d,ByteArray.size_append];omega
theorem Q9k {t:Tree} (hv:Valid t) (s:ByteArray):∀ k,k <= t.gates.length -> (Q4p t s k).size <= s.size + k * 5000000
 | 0,_=>by simp [Q4p]
 | k + 1,h=>by
   have h1:=Q9k hv s k (by omega)
   have h2:=X2c hv (k:=k) (by omega)
   rw [Q4p,ByteArray.size_append];omega
theorem X2n (w:World) (v:Value) (t:Tree) (ht:IsTree w v t) :
    Calls Tryz.prog 25 #[v] w fun e w'=>e = .returned (.tuple #[.string (Q7m t),.int .i64 t.err]) /\ Ext w w':=by
 obtain ⟨i0,hi,hz0,hz1,hz2⟩:=info_parts Tryz.info3;obtain ⟨a,b,c,rfl,h3⟩:=ht;obtain ⟨A,capa,rfl,hl1,hcap1,_⟩:=h3.basics.opened;obtain ⟨B,capb,rfl,hl2,hcap2,_⟩:=h3.causes.opened;obtain ⟨G,capg,rfl,hl3,hcap3,_⟩:=h3.gates.opened;have HT0:=Lib.hid h3;clear h3;go_enter Tryz.func25,Tryz.ntmps25;go_wp2_with fail;change Calls _ _ _ (w.alloc (.cells #[.slice A t.basics.length capa,.slice B t.causes.length capb,.slice G t.gates.length capg] 33)) _;obtain ⟨W,hWW,k0,HXW,eW⟩:=Q3a w 33 #[.slice A t.basics.length capa,.slice B t.causes.length capb,.slice G t.gates.length capg];rw [hWW];clear hWW;have HT:=Lib.hid (HT0.out.ext HXW.out);refine (Q1y _ _ t ⟨_,_,_,rfl,HT.out⟩).mono ?_;rintro e w1 ⟨rfl,hx1⟩;have kt:=k0.ext hx1;have c0:=kt.cell 0;have c1:=kt.cell 1;have c2:=kt.cell 2;simp only [Go.Tw.gA,Go.Tw.gB,Go.Tw.gC] at c0 c1 c2;have HXX:=Lib.hid (HXW.out.trans hx1);have HX1:=Lib.hid hx1;clear kt hx1;obtain ⟨wz,hwz⟩:∃ x,x = w1:=⟨_,rfl⟩;subst hwz;have K1:=Lib.hid (k0.ext HX1.out);have HT1:=Lib.hid (HT.out.ext HX1.out);clear k0
 by_cases he:t.err = 0
 . have HPR:Hid (Q7m t = Q4p t (Q3d t (X5x t) t.causes.length) t.gates.length):=by exact (by unfold Q7m; rw [if_pos he]:Q7m t = _)
   have HE:=Lib.hid he;have HV:=Lib.hid (Valid.of he);have hsz:=HV.out.size;unfold Tree.size at hsz;have hng:=HV.out.ng';have hnb:=HV.out.nb;have hne:(t.err != 0) = false:=by rw [he]; rfl
   clear he;go_wp2_with fail;refine (Y3r _ _ t.basics HT1.out.basics (by omega) (fun k hk=>HV.out.basic hk)).mono ?_
   rintro e wb ⟨u,rfl,hown,hxb⟩;have hbs:∀ x ∈ t.basics.map Q8w,x.size <= 5000000:=by
    intro x hx;obtain ⟨k,hk,rfl⟩:=List.getElem_of_mem hx;rw [List.getElem_map];rw [List.length_map] at hk;have h:=HV.out.basic hk;unfold bName Q1b at h;rw [getD_at hk] at h;exact Q8a (by simp) (by decide) h.2.2 fun x hx=>by rw [List.mem_singleton] at hx; subst hx; exact ⟨h.1,h.2.1⟩
   have HJ:Hid (Calls Tryz.prog 80 #[u,.string ⟨#[]⟩] wb fun e w'=>e = .returned (.string (X5x t)) /\ Ext wb w'):=by
    exact (Y5e wb _ u (t.basics.map Q8w) emp hown (by rw [List.length_map]; omega) (fun h=>by rw [List.map_eq_nil_iff] at h; rw [h] at hnb; simp at hnb) hbs (by decide):Calls Tryz.prog 80 #[u,.string ⟨#[]⟩] wb fun e w'=>e = .returned (.string (X5x t)) /\ Ext wb w')
   have hps:=Q9l (xs:=t.basics.map Q8w) (sep:=emp) (B:=5000000) (by rw [List.length_map]; omega) hbs (by decide)
   change (X5x t).size <= _ at hps;clear hbs hown;go_wp2_with fail;refine HJ.out.mono ?_;rintro e wq ⟨rfl,hxq⟩;have HXQ:=Lib.hid (hxb.trans hxq);have KQ:=Lib.hid (K1.out.ext HXQ.out);obtain ⟨pb,hpb⟩:∃ x,X5x t = x:=⟨_,rfl⟩;rw [hpb] at HPR hps ⊢;have c1:=KQ.out.cell 1;simp only [Go.Tw.gA,Go.Tw.gB,Go.Tw.gC] at c1;clear hxb hxq HJ hpb;go_wp2;clear c1
   go_loopw [5,22] (fun o i wr=>∃ (k:Nat),k <= t.causes.length /\ i = .int .i64 k /\ o = .string (Q3d t pb k) /\ Ext wz wr) (fun _ i _=>t.causes.length - (intOf i).toNat)
   case atStart=>exact ⟨0,Nat.zero_le _,rfl,rfl,HXQ.out⟩
   case round =>
    obtain ⟨k,hk,rfl,rfl,hbel⟩:=hrel
    by_cases hlt:k < t.causes.length
    . obtain ⟨_,_,he0,_,_,hcc⟩:=HT1.out.causes.opened
      cases he0;obtain ⟨b1,off,mv,rfl,hb1,e0,e1,e2,hM,hsh⟩:=hcc k hlt;replace e0:=hbel.cell e0;replace e1:=hbel.cell e1;replace e2:=hbel.cell e2;have hcp:=HV.out.cause hlt;have hls:=X2s HV.out hlt;have hcs:=Q5o HV.out pb k hk;have HSTEP:Hid (Q3d t pb (k + 1) = Q3d t pb k ++ lineS Q6h (cName t.causes k) (Q1k t.causes k :: Q0f t.causes k)):=by exact (rfl:Q3d t pb (k + 1) = _)
      obtain ⟨acc,hacc⟩:∃ x,Q3d t pb k = x:=⟨_,rfl⟩;obtain ⟨nm,hnm⟩:∃ x,cName t.causes k = x:=⟨_,rfl⟩;obtain ⟨ch,hch⟩:∃ x,Q1k t.causes k = x:=⟨_,rfl⟩;obtain ⟨ml,hml⟩:∃ x,Q0f t.causes k = x:=⟨_,rfl⟩;obtain ⟨A3,cap3,rfl,_,_,hmc⟩:=hM.opened;obtain ⟨b3,off3,rfl,_⟩:=hmc 0 (List.length_pos_iff.2 hcp.2.1);clear hmc;rw [hnm] at e0;rw [hch] at e1;rw [hml] at e2 hM;rw [hnm,hch,hml] at hcp hls HSTEP;rw [hacc] at hcs HSTEP ⊢;have HM:=Lib.hid (hM.ext hbel);have HCP:=Lib.hid hcp;have HBEL:=Lib.hid hbel;have hkI:(k:Int) < t.causes.length:=by omega
      have hml12:=hcp.2.2.1;clear hbel hcc hM hnm hch hml hacc hcp hsh;go_wp2_with (refine Q0c rfl _ _ 106 rfl Tryz.X4q rfl rfl (Blk.made _ _ _) rfl rfl ?_ ?_; (focus (intro u hu; simp only [List.mem_cons,List.not_mem_nil,or_false] at hu; rcases hu with rfl | rfl | rfl <;> rfl)); intro w7 hb7 hl7 ho7; refine halted ?_)
      have hx7:Ext wr w7:=Below.trans (Ext.box wr _) (hl7 _ (Nat.le_refl _));have HX7:=Lib.hid (HBEL.out.trans hx7);have HM7:=Lib.hid (HM.out.ext hx7);have KB:=Lib.hid hb7;have hdr:=(Ext.refl w7).drew;obtain ⟨ls,hlsx⟩:∃ x,lineS Q6h nm (ch :: ml) = x:=⟨_,rfl⟩;rw [hlsx] at hls HSTEP;have HLN:Hid (∀ (w':World) (u:Value),Q0e w' u (ch :: ml) -> Calls Tryz.prog 82 #[.string ⟨#[99,97,117,115,101]⟩,.string nm,u] w' fun e w''=>e = .returned (.string ls) /\ Ext w' w''):=by
       exact (by
        intro w' u h;rw [<- hlsx];exact Y0d w' Q6h nm u (ch :: ml) h (by rw [List.length_cons]; omega) (by simp) (fun x hx=>by
         rcases List.mem_cons.1 hx with rfl | hx
         . exact HCP.out.1
         . exact HCP.out.2.2.2.1 x hx) (by decide) (by have:=HCP.out.2.2.2.2; omega):∀ (w':World) (u:Value),Q0e w' u (ch :: ml) -> Calls Tryz.prog 82 #[.string ⟨#[99,97,117,115,101]⟩,.string nm,u] w' fun e w''=>e = .returned (.string ls) /\ Ext w' w'')
      have hcat:¬ 9223372036854775807 < acc.size + ls.size:=by omega
      clear hb7 hl7 ho7 e0 e1 e2 hx7 hlsx hls hcs;unfold Q2t;go_wp2;refine Flow.Q2p [.p,.p,.w,.p,.w,.w,.p,.w,.w,.w,.p,.p] [0,1,2,3,4,5,6,7,8,9,10,11] [[],[],[1],[],[3],[4],[],[6],[5,7],[2,8],[0,9],[0,1,2,3,4,5,6,7,8,9,10]]
       [.c 0 (.string acc),.c 1 (.pointer (some ⟨wr.heap.size,0,none⟩)),.c 2 (.string nm),.c 3 (.pointer (some ⟨wr.heap.size,1,none⟩)),.c 4 (.int .i64 ch),⟨fun v wz=>X6n wz (v 5) ch,fun _ _ _ hx h=>h.ext hx⟩,.c 6 (.pointer (some ⟨wr.heap.size,2,none⟩)),.c 7 (.slice (some ⟨b3,off3,none⟩) ml.length cap3),⟨fun v wz=>Q0e wz (v 8) (ch :: ml),fun _ _ _ hx h=>h.ext hx⟩,.c 9 (.string ls),.c 10 (.string (acc ++ ls)),.c 11 (.string (acc ++ ls))]
       (by kernel_rfl) rfl (by kernel_rfl) ⟨?g0,?g1,?g2,?g3,?g4,?g5,?g6,?g7,?g8,?g9,?g10,?g11,trivial⟩ ?post
      case g0 | g1 | g3 | g6=>
       intro v w1 hx;intro bb hbb;subst hbb;refine ⟨_,fun w=>?_,rfl⟩;go_simp
      case g2 | g4 | g7=>
       intro v w1 hx;(repeat intro (zq:v _ = _));intro bb hbb;subst hbb;have n0:w1.cell? ⟨wr.heap.size,0,none⟩ = some (.string nm):=(KB.out.ext (hdr.trans hx)).cell 0;have n1:w1.cell? ⟨wr.heap.size,1,none⟩ = some (.int .i64 ch):=(KB.out.ext (hdr.trans hx)).cell 1;have n2:w1.cell? ⟨wr.heap.size,2,none⟩ = some (.slice (some ⟨b3,off3,none⟩) ml.length cap3):=(KB.out.ext (hdr.trans hx)).cell 2;intro K hK;go_simp;exact hK _ _ (Ext.refl _) rfl
      case g5=>
       intro v w1 hx;(repeat intro (zq:v _ = _));intro bb hbb;subst hbb;intro K hK;go_simp;exact hK _ _ (Ext.box _ _) (X6n.new _ _ _)
      case g8=>
       intro v w1 hx (q5:X6n w1 (v 5) ch) (q7:v 7 = _);intro bb hbb;intro K hK;obtain ⟨g5,e5,c5⟩:=q5;have o1:bb.eval (.tmp 31) = .slice (some ⟨g5,0,none⟩) 1 1:=by rw [hbb]; dsimp only; (try simp (discharger:=decide) only [eval_put_ne]); rw [Q0a (by simp only [size_put]; exact (by decide:31 < 58))]; exact e5
       have o2:bb.eval (.tmp 33) = .slice (some ⟨b3,off3,none⟩) ml.length cap3:=by rw [hbb]; dsimp only; (try simp (discharger:=decide) only [eval_put_ne]); rw [Q0a (by simp only [size_put]; exact (by decide:33 < 58))]; exact q7
       obtain ⟨A9,cap9,he9,_,_,hc9⟩:=(HM7.out.ext (hdr.trans hx)).opened;cases he9;refine Q3y (.tmp 31) (.tmp 33) 40 rfl 3 i0 (.int .i64 0) 8 Tryz.underlying40 hi hz0 hz1 hz2 rfl o1 [.int .i64 ch] rfl ?_ o2 (ml.map (Value.int .i64)) (by simp) ?_ (by have:=List.length_pos_iff.2 HCP.out.2.1; omega) (by unfold maxLen; omega) (by omega) (fun v' w' ho hg=>?_)
       . intro j u hj
         cases j with
         | zero=>injection hj with hj; subst hj; rw [addr_add]; exact c5
         | succ j=>cases hj
       . intro j u hj
         rw [List.getElem?_map] at hj;obtain ⟨y,hy,rfl⟩:=Option.map_eq_some_iff.1 hj;obtain ⟨hjl,rfl⟩:=List.getElem?_eq_some_iff.1 hy;obtain ⟨b',off',hee,hcell⟩:=hc9 j hjl;cases hee;rw [addr_add,hcell,Q6t hjl]
       . have hoo:Q0s w' w1.heap.size 3 (.int .i64) v' (ch :: ml):=by unfold Q0s; rw [List.length_cons,Nat.add_comm]; exact ho
         exact hK _ _ (Q7l hg) (hoo.ints (by rw [List.length_cons]; omega))
      case g9=>
       intro v w1 hx (q2:v 2 = _) (q8:Q0e w1 (v 8) (ch :: ml));intro bb hbb;subst hbb;intro K hK;go_simp;refine Q0d (HLN.out w1 _ q8) ?_;rintro e w2 ⟨rfl,hx2⟩;exact ⟨_,rfl,hK _ _ hx2 rfl⟩
      case g10=>
       intro v w1 hx;(repeat intro (zq:v _ = _));intro bb hbb;subst hbb;refine ⟨_,fun w=>?_,rfl⟩;go_simp
      case g11=>
       intro v w1 hx (q0:v 0 = _) (q1:v 1 = _) (q2:v 2 = _) (q3:v 3 = _) (q4:v 4 = _) _ (q6:v 6 = _) (q7:v 7 = _) _ (q9:v 9 = _) (q10:v 10 = _);intro bb hbb;subst hbb;refine ⟨_,fun w=>?_,rfl⟩;go_simp
      case post =>
       intro v w1 hx;(iterate 5 intro (zq:v _ = _));intro (q5:X6n w1 (v 5) ch);(iterate 2 intro (zq:v _ = _));intro (q8:Q0e w1 (v 8) (ch :: ml));(iterate 2 intro (zq:v _ = _));intro (q11:v 11 = _);simp only [Flow.All,Flow.acts,Act.put];go_simp;have HX9:=Lib.hid (HX7.out.trans (hdr.trans hx));clear hx hdr q5 q8;(repeat clear zq);go_wp2;go_roundw
       case rel=>exact ⟨k + 1,by omega,by go_num,by rw [HSTEP.out],HX9.out⟩
       case measure=>simp [intOf]; omega
    . have e:k = t.causes.length:=by omega
      subst e;have HX6:=Lib.hid hbel;have K6:=Lib.hid (K1.out.ext hbel);have c2:=K6.out.cell 2;simp only [Go.Tw.gA,Go.Tw.gB,Go.Tw.gC] at c2;have hps2:=Q5o HV.out pb t.causes.length (Nat.le_refl _);obtain ⟨pc,hpc⟩:∃ x,Q3d t pb t.causes.length = x:=⟨_,rfl⟩;rw [hpc] at HPR hps2 ⊢;clear hbel hpc;go_wp2;clear c2
      go_loopw [5,41] (fun o i wr=>∃ (k:Nat),k <= t.gates.length /\ i = .int .i64 k /\ o = .string (Q4p t pc k) /\ Ext wz wr) (fun _ i _=>t.gates.length - (intOf i).toNat)
      case atStart=>exact ⟨0,Nat.zero_le _,rfl,rfl,HX6.out⟩
      case round =>
       obtain ⟨k,hk,rfl,rfl,hbel⟩:=hrel
       by_cases hlt:k < t.gates.length
       . obtain ⟨_,_,he0,_,_,hcc⟩:=HT1.out.gates.opened
         cases he0;obtain ⟨b1,off,mv,rfl,hb1,e0,e1,e2,hM,hsh⟩:=hcc k hlt;replace e0:=hbel.cell e0;replace e1:=hbel.cell e1;replace e2:=hbel.cell e2;have hcp:=HV.out.Z3q hlt;have hls:=X2c HV.out hlt;have hcs:=Q9k HV.out pc k hk;have HSTEP:Hid (Q4p t pc (k + 1) = Q4p t pc k ++ lineS X0w (Q2f t.gates k) (Q3e t.gates k :: Q0m t.gates k)):=by exact (rfl:Q4p t pc (k + 1) = _)
         obtain ⟨acc,hacc⟩:∃ x,Q4p t pc k = x:=⟨_,rfl⟩;obtain ⟨nm,hnm⟩:∃ x,Q2f t.gates k = x:=⟨_,rfl⟩;obtain ⟨ch,hch⟩:∃ x,Q3e t.gates k = x:=⟨_,rfl⟩;obtain ⟨ml,hml⟩:∃ x,Q0m t.gates k = x:=⟨_,rfl⟩;obtain ⟨A3,cap3,rfl,_,_,hmc⟩:=hM.opened;obtain ⟨b3,off3,rfl,_⟩:=hmc 0 (List.length_pos_iff.2 hcp.2.1);clear hmc;rw [hnm] at e0;rw [hch] at e1;rw [hml] at e2 hM;rw [hnm,hch,hml] at hcp hls HSTEP;rw [hacc] at hcs HSTEP ⊢;have HM:=Lib.hid (hM.ext hbel);have HCP:=Lib.hid hcp;have HBEL:=Lib.hid hbel;have hkI:(k:Int) < t.gates.length:=by omega
         have hml12:=hcp.2.2.1;clear hbel hcc hM hnm hch hml hacc hcp hsh;go_wp2_with (refine Q0c rfl _ _ 114 rfl Tryz.X9m rfl rfl (Blk.made _ _ _) rfl rfl ?_ ?_; (focus (intro u hu; simp only [List.mem_cons,List.not_mem_nil,or_false] at hu; rcases hu with rfl | rfl | rfl <;> rfl)); intro w7 hb7 hl7 ho7; refine halted ?_)
         have hx7:Ext wr w7:=Below.trans (Ext.box wr _) (hl7 _ (Nat.le_refl _));have HX7:=Lib.hid (HBEL.out.trans hx7);have HM7:=Lib.hid (HM.out.ext hx7);have KB:=Lib.hid hb7;have hdr:=(Ext.refl w7).drew;obtain ⟨ls,hlsx⟩:∃ x,lineS X0w nm (ch :: ml) = x:=⟨_,rfl⟩;rw [hlsx] at hls HSTEP;have HLN:Hid (∀ (w':World) (u:Value),Q0e w' u (ch :: ml) -> Calls Tryz.prog 82 #[.string ⟨#[103,97,116,101]⟩,.string nm,u] w' fun e w''=>e = .returned (.string ls) /\ Ext w' w''):=by
          exact (by
           intro w' u h;rw [<- hlsx];exact Y0d w' X0w nm u (ch :: ml) h (by rw [List.length_cons]; omega) (by simp) (fun x hx=>by
            rcases List.mem_cons.1 hx with rfl | hx
            . exact HCP.out.1
            . exact HCP.out.2.2.2.1 x hx) (by decide) (by have:=HCP.out.2.2.2.2; omega):∀ (w':World) (u:Value),Q0e w' u (ch :: ml) -> Calls Tryz.prog 82 #[.string ⟨#[103,97,116,101]⟩,.string nm,u] w' fun e w''=>e = .returned (.string ls) /\ Ext w' w'')
         have hcat:¬ 9223372036854775807 < acc.size + ls.size:=by omega
         clear hb7 hl7 ho7 e0 e1 e2 hx7 hlsx hls hcs;unfold Q2t;go_wp2;refine Flow.Q2p [.p,.p,.w,.p,.w,.w,.p,.w,.w,.w,.p,.p] [0,1,2,3,4,5,6,7,8,9,10,11] [[],[],[1],[],[3],[4],[],[6],[5,7],[2,8],[0,9],[0,1,2,3,4,5,6,7,8,9,10]]
          [.c 0 (.string acc),.c 1 (.pointer (some ⟨wr.heap.size,0,none⟩)),.c 2 (.string nm),.c 3 (.pointer (some ⟨wr.heap.size,1,none⟩)),.c 4 (.int .i64 ch),⟨fun v wz=>X6n wz (v 5) ch,fun _ _ _ hx h=>h.ext hx⟩,.c 6 (.pointer (some ⟨wr.heap.size,2,none⟩)),.c 7 (.slice (some ⟨b3,off3,none⟩) ml.length cap3),⟨fun v wz=>Q0e wz (v 8) (ch :: ml),fun _ _ _ hx h=>h.ext hx⟩,.c 9 (.string ls),.c 10 (.string (acc ++ ls)),.c 11 (.string (acc ++ ls))]
          (by kernel_rfl) rfl (by kernel_rfl) ⟨?g0,?g1,?g2,?g3,?g4,?g5,?g6,?g7,?g8,?g9,?g10,?g11,trivial⟩ ?post
         case g0 | g1 | g3 | g6=>
          intro v w1 hx;intro bb hbb;subst hbb;refine ⟨_,fun w=>?_,rfl⟩;go_simp
         case g2 | g4 | g7=>
          intro v w1 hx;(repeat intro (zq:v _ = _));intro bb hbb;subst hbb;have n0:w1.cell? ⟨wr.heap.size,0,none⟩ = some (.string nm):=(KB.out.ext (hdr.trans hx)).cell 0;have n1:w1.cell? ⟨wr.heap.size,1,none⟩ = some (.int .i64 ch):=(KB.out.ext (hdr.trans hx)).cell 1;have n2:w1.cell? ⟨wr.heap.size,2,none⟩ = some (.slice (some ⟨b3,off3,none⟩) ml.length cap3):=(KB.out.ext (hdr.trans hx)).cell 2;intro K hK;go_simp;exact hK _ _ (Ext.refl _) rfl
         case g5=>
          intro v w1 hx;(repeat intro (zq:v _ = _));intro bb hbb;subst hbb;intro K hK;go_simp;exact hK _ _ (Ext.box _ _) (X6n.new _ _ _)
         case g8=>
          intro v w1 hx (q5:X6n w1 (v 5) ch) (q7:v 7 = _);intro bb hbb;intro K hK;obtain ⟨g5,e5,c5⟩:=q5;have o1:bb.eval (.tmp 50) = .slice (some ⟨g5,0,none⟩) 1 1:=by rw [hbb]; dsimp only; (try simp (discharger:=decide) only [eval_put_ne]); rw [Q0a (by simp only [size_put]; exact (by decide:50 < 58))]; exact e5
          have o2:bb.eval (.tmp 52) = .slice (some ⟨b3,off3,none⟩) ml.length cap3:=by rw [hbb]; dsimp only; (try simp (discharger:=decide) only [eval_put_ne]); rw [Q0a (by simp only [size_put]; exact (by decide:52 < 58))]; exact q7
          obtain ⟨A9,cap9,he9,_,_,hc9⟩:=(HM7.out.ext (hdr.trans hx)).opened;cases he9;refine Q3y (.tmp 50) (.tmp 52) 40 rfl 3 i0 (.int .i64 0) 8 Tryz.underlying40 hi hz0 hz1 hz2 rfl o1 [.int .i64 ch] rfl ?_ o2 (ml.map (Value.int .i64)) (by simp) ?_ (by have:=List.length_pos_iff.2 HCP.out.2.1; omega) (by unfold maxLen; omega) (by omega) (fun v' w' ho hg=>?_)
          . intro j u hj
            cases j with
            | zero=>injection hj with hj; subst hj; rw [addr_add]; exact c5
            | succ j=>cases hj
          . intro j u hj
            rw [List.getElem?_map] at hj;obtain ⟨y,hy,rfl⟩:=Option.map_eq_some_iff.1 hj;obtain ⟨hjl,rfl⟩:=List.getElem?_eq_some_iff.1 hy;obtain ⟨b',off',hee,hcell⟩:=hc9 j hjl;cases hee;rw [addr_add,hcell,Q6t hjl]
          . have hoo:Q0s w' w1.heap.size 3 (.int .i64) v' (ch :: ml):=by unfold Q0s; rw [List.length_cons,Nat.add_comm]; exact ho
            exact hK _ _ (Q7l hg) (hoo.ints (by rw [List.length_cons]; omega))
         case g9=>
          intro v w1 hx (q2:v 2 = _) (q8:Q0e w1 (v 8) (ch :: ml));intro bb hbb;subst hbb;intro K hK;go_simp;refine Q0d (HLN.out w1 _ q8) ?_;rintro e w2 ⟨rfl,hx2⟩;exact ⟨_,rfl,hK _ _ hx2 rfl⟩
         case g10=>
          intro v w1 hx;(repeat intro (zq:v _ = _));intro bb hbb;subst hbb;refine ⟨_,fun w=>?_,rfl⟩;go_simp
         case g11=>
          intro v w1 hx (q0:v 0 = _) (q1:v 1 = _) (q2:v 2 = _) (q3:v 3 = _) (q4:v 4 = _) _ (q6:v 6 = _) (q7:v 7 = _) _ (q9:v 9 = _) (q10:v 10 = _);intro bb hbb;subst hbb;refine ⟨_,fun w=>?_,rfl⟩;go_simp
         case post =>
          intro v w1 hx;(iterate 5 intro (zq:v _ = _));intro (q5:X6n w1 (v 5) ch);(iterate 2 intro (zq:v _ = _));intro (q8:Q0e w1 (v 8) (ch :: ml));(iterate 2 intro (zq:v _ = _));intro (q11:v 11 = _);simp only [Flow.All,Flow.acts,Act.put];go_simp;have HX9:=Lib.hid (HX7.out.trans (hdr.trans hx));clear hx hdr q5 q8;(repeat clear zq);go_wp2;go_roundw
          case rel=>exact ⟨k + 1,by omega,by go_num,by rw [HSTEP.out],HX9.out⟩
          case measure=>simp [intOf]; omega
       . have e:k = t.gates.length:=by omega
         subst e;have HX8:=Lib.hid (HXX.out.trans hbel);clear hbel;go_wp2;refine bodyPost_ret (results_tmp2 Tryz.results25 _ _ _) rfl ?_;exact ⟨by rw [HPR.out,HE.out]; rfl,HX8.out⟩
 . have HPR:Hid (Q7m t = emp):=Lib.hid (by unfold Q7m; rw [if_neg he])
   have hne:(t.err != 0) = true:=by simp [he]
   clear he;go_wp2;refine bodyPost_ret (results_tmp2 Tryz.results25 _ _ _) rfl ?_;exact ⟨by rw [HPR.out]; rfl,HXX.out⟩
end Go.Proofs
namespace Go.Proofs
open Go.RowKit Go.Tw Go.Flow
theorem X1a {α:Type} [DecidableEq α] {x y:α} {l m:List α} (h:x = y):decide (x :: l = y :: m) = decide (l = m):=by
 subst h; simp
theorem X1q {α:Type} [DecidableEq α] {x y:α} {l m:List α} (h:¬ x = y):decide (x :: l = y :: m) = false:=by
 simp [h]
theorem Q7b (w:World) (u v:Value) (a b:List Int) (hu:Q0e w u a) (hv:Q0e w v b) :
    Calls Tryz.prog 42 #[u,v] w fun e w'=>e = .returned (.bool (decide (a = b))) /\ Ext w w':=by
 obtain ⟨A,capa,rfl,hla,hcapa,hca⟩:=hu.opened;obtain ⟨B,capb,rfl,hlb,hcapb,hcb⟩:=hv.opened;clear hu hv;go_enter Tryz.func42,Tryz.ntmps42
 by_cases hl:a.length = b.length
 . have hne:((a.length:Int) != (b.length:Int)) = false:=by simp [hl]
   go_wp2
   go_loopw [5] (fun i wr=>∃ k:Nat,k <= a.length /\ i = .int .i64 k /\ decide (a.drop k = b.drop k) = decide (a = b) /\ Ext w wr) (fun i _=>a.length - (intOf i).toNat)
   case atStart=>exact ⟨0,Nat.zero_le _,rfl,rfl,Ext.refl _⟩
   case round =>
    obtain ⟨k,hk,rfl,hr,hx⟩:=hrel;have HR:=Lib.hid hr; clear hr
    by_cases hlt:k < a.length
    . have hlt2:k < b.length:=by omega
      obtain ⟨b1,off1,rfl,hc1⟩:=hca k hlt;obtain ⟨b2,off2,rfl,hc2⟩:=hcb k hlt2;replace hc1:=hx.cell hc1;replace hc2:=hx.cell hc2;have HD1:=Lib.hid (Q3k hlt);have HD2:=Lib.hid (Q3k hlt2);clear hca hcb
      by_cases h0:ix a k = ix b k
      . have hx1:(ix a k != ix b k) = false:=by simp [h0]
        have H0:=Lib.hid h0; clear h0;go_wp2
        go_quiet (fail)
        all_goals go_wp2
        go_roundw
        case rel=>exact ⟨k + 1,by omega,by go_num,by rw [<- HR.out,HD1.out,HD2.out,X1a H0.out],hx.drewN _⟩
        case measure=>simp [intOf]; omega
      . have hx1:(ix a k != ix b k) = true:=by simp [h0]
        have H0:=Lib.hid h0; clear h0;go_wp2
        go_quiet (fail)
        all_goals go_wp2
        go_ret;exact ⟨Q1j (by rw [<- HR.out,HD1.out,HD2.out,X1q H0.out]),hx.drewN _⟩
    . clear hca hcb
      go_wp2;go_ret;exact ⟨Q1j (by rw [<- HR.out,List.drop_eq_nil_of_le (by omega),List.drop_eq_nil_of_le (by omega)]; rfl),hx⟩
 . have hne:((a.length:Int) != (b.length:Int)) = true:=by simp; omega
   have HL:Hid (decide (a = b) = false):=Lib.hid (decide_eq_false (fun h=>hl (by rw [h])))
   clear hl hca hcb;go_wp2;go_ret;exact ⟨Q1j (by rw [HL.out]),Ext.refl _⟩
theorem Z1o {l:List Bool} {k:Nat} (h:k < l.length):l.drop k = bx l k :: l.drop (k + 1):=by
 unfold bx; rw [show l.getD k false = l[k] by simp [h]]; exact List.drop_eq_getElem_cons h
theorem Y0f (w:World) (u v:Value) (a b:List Bool) (hu:Q5g w u a) (hv:Q5g w v b) :
    Calls Tryz.prog 40 #[u,v] w fun e w'=>e = .returned (.bool (decide (a = b))) /\ Ext w w':=by
 obtain ⟨A,capa,rfl,hla,hcapa,hca⟩:=hu.opened;obtain ⟨B,capb,rfl,hlb,hcapb,hcb⟩:=hv.opened;clear hu hv;go_enter Tryz.func40,Tryz.ntmps40
 by_cases hl:a.length = b.length
 . have hne:((a.length:Int) != (b.length:Int)) = false:=by simp [hl]
   go_wp2
   go_loopw [5] (fun i wr=>∃ k:Nat,k <= a.length /\ i = .int .i64 k /\ decide (a.drop k = b.drop k) = decide (a = b) /\ Ext w wr) (fun i _=>a.length - (intOf i).toNat)
   case atStart=>exact ⟨0,Nat.zero_le _,rfl,rfl,Ext.refl _⟩
   case round =>
    obtain ⟨k,hk,rfl,hr,hx⟩:=hrel;have HR:=Lib.hid hr; clear hr
    by_cases hlt:k < a.length
    . have hlt2:k < b.length:=by omega
      obtain ⟨b1,off1,rfl,_,hc1⟩:=hca k hlt;obtain ⟨b2,off2,rfl,_,hc2⟩:=hcb k hlt2;replace hc1:=hx.cell hc1;replace hc2:=hx.cell hc2;have HD1:=Lib.hid (Z1o hlt);have HD2:=Lib.hid (Z1o hlt2);clear hca hcb;cases hxa:bx a k with
      | false =>
        cases hxb:bx b k with
        | false =>
          rw [hxa] at hc1;rw [hxb] at hc2;have H0:Hid (bx a k = bx b k):=Lib.hid (by rw [hxa,hxb])
          clear hxa hxb;go_wp2
          go_quiet (fail)
          all_goals go_wp2
          go_roundw
          case rel=>exact ⟨k + 1,by omega,by go_num,by rw [<- HR.out,HD1.out,HD2.out,X1a H0.out],hx.drewN _⟩
          case measure=>simp [intOf]; omega
        | true =>
          rw [hxa] at hc1;rw [hxb] at hc2;have H0:Hid (¬ bx a k = bx b k):=Lib.hid (by rw [hxa,hxb]; decide)
          clear hxa hxb;go_wp2
          go_quiet (fail)
          all_goals go_wp2
          go_ret;exact ⟨Q1j (by rw [<- HR.out,HD1.out,HD2.out,X1q H0.out]),hx.drewN _⟩
      | true =>
        cases hxb:bx b k with
        | false =>
          rw [hxa] at hc1;rw [hxb] at hc2;have H0:Hid (¬ bx a k = bx b k):=Lib.hid (by rw [hxa,hxb]; decide)
          clear hxa hxb;go_wp2
          go_quiet (fail)
          all_goals go_wp2
          go_ret;exact ⟨Q1j (by rw [<- HR.out,HD1.out,HD2.out,X1q H0.out]),hx.drewN _⟩
        | true =>
          rw [hxa] at hc1;rw [hxb] at hc2;have H0:Hid (bx a k = bx b k):=Lib.hid (by rw [hxa,hxb])
          clear hxa hxb;go_wp2
          go_quiet (fail)
          all_goals go_wp2
          go_roundw
          case rel=>exact ⟨k + 1,by omega,by go_num,by rw [<- HR.out,HD1.out,HD2.out,X1a H0.out],hx.drewN _⟩
          case measure=>simp [intOf]; omega
    . clear hca hcb
      go_wp2;go_ret;exact ⟨Q1j (by rw [<- HR.out,List.drop_eq_nil_of_le (by omega),List.drop_eq_nil_of_le (by omega)]; rfl),hx⟩
 . have hne:((a.length:Int) != (b.length:Int)) = true:=by simp; omega
   have HL:Hid (decide (a = b) = false):=Lib.hid (decide_eq_false (fun h=>hl (by rw [h])))
   clear hl hca hcb;go_wp2;go_ret;exact ⟨Q1j (by rw [HL.out]),Ext.refl _⟩
theorem Y1v (w:World) (u v:Value) (a b:List (List Int)) (hu:Q1v w u a) (hv:Q1v w v b) :
    Calls Tryz.prog 41 #[u,v] w fun e w'=>e = .returned (.bool (decide (a = b))) /\ Ext w w':=by
 obtain ⟨A,capa,rfl,hla,hcapa,hca⟩:=hu.opened;obtain ⟨B,capb,rfl,hlb,hcapb,hcb⟩:=hv.opened;clear hu hv;go_enter Tryz.func41,Tryz.ntmps41
 by_cases hl:a.length = b.length
 . have hne:((a.length:Int) != (b.length:Int)) = false:=by simp [hl]
   have HLL:=Lib.hid hl;clear hl;have HCA:=Lib.hid hca;have HCB:=Lib.hid hcb;clear hca hcb;go_wp2
   go_loopw [5] (fun i wr=>∃ k:Nat,k <= a.length /\ i = .int .i64 k /\ decide (a.drop k = b.drop k) = decide (a = b) /\ Ext w wr) (fun i _=>a.length - (intOf i).toNat)
   case atStart=>exact ⟨0,Nat.zero_le _,rfl,rfl,Ext.refl _⟩
   case round =>
    obtain ⟨k,hk,rfl,hr,hxw⟩:=hrel;have HR:=Lib.hid hr; clear hr
    by_cases hlt:k < a.length
    . have hlt2:k < b.length:=by have:=HLL.out; omega
      obtain ⟨b1,off1,m1,rfl,_,hc1,hm1⟩:=HCA.out k hlt;obtain ⟨b2,off2,m2,rfl,_,hc2,hm2⟩:=HCB.out k hlt2;have HC1:=Lib.hid (hxw.cell hc1);have HC2:=Lib.hid (hxw.cell hc2);have HM1:=Lib.hid (hm1.ext hxw);have HM2:=Lib.hid (hm2.ext hxw);have HD1:Hid (a.drop k = a.getD k [] :: a.drop (k + 1)):=Lib.hid (by rw [Q3w _ hlt]; exact List.drop_eq_getElem_cons hlt)
      have HD2:Hid (b.drop k = b.getD k [] :: b.drop (k + 1)):=Lib.hid (by rw [Q3w _ hlt2]; exact List.drop_eq_getElem_cons hlt2)
      obtain ⟨x,hx0⟩:∃ x,a.getD k [] = x:=⟨_,rfl⟩;obtain ⟨y,hy0⟩:∃ y,b.getD k [] = y:=⟨_,rfl⟩;rw [hx0] at HM1 HD1;rw [hy0] at HM2 HD2;obtain ⟨qd,hqd⟩:∃ q,decide (x = y) = q:=⟨_,rfl⟩;have HQ:=Lib.hid hqd;have HS:Hid (∀ w',Ext wr w' -> Calls Tryz.prog 42 #[m1,m2] w' fun e w''=>e = .returned (.bool qd) /\ Ext w' w''):=by
       exact (fun w' h=>by rw [<- hqd]; exact Q7b w' _ _ x y (HM1.out.ext h) (HM2.out.ext h):∀ w',Ext wr w' -> Calls Tryz.prog 42 #[m1,m2] w' fun e w''=>e = .returned (.bool qd) /\ Ext w' w'')
      have hkI:(k:Int) < a.length:=by omega
      have hkI2:(k:Int) < b.length:=by omega
      have hdr:=(Ext.refl wr).drew;clear hc1 hc2 hm1 hm2 hx0 hy0 hqd;go_wp2;refine Flow.Q2p [.p,.p,.p,.w,.p,.p,.p,.w,.w,.p] [0,1,2,3,4,5,6,7,8,9] [[],[],[0,1],[2],[],[],[4,5],[6],[3,7],[8]]
       [.c 0 (.slice (some ⟨b1,off1,none⟩) a.length capa),.c 1 (.int .i64 k),.c 2 (.pointer (some ⟨b1,off1 + k,none⟩)),.c 3 (m1),.c 4 (.slice (some ⟨b2,off2,none⟩) b.length capb),.c 5 (.int .i64 k),.c 6 (.pointer (some ⟨b2,off2 + k,none⟩)),.c 7 (m2),.c 8 (.bool qd),.c 9 (.bool (!qd))]
       (by kernel_rfl) rfl (by kernel_rfl) ⟨?g0,?g1,?g2,?g3,?g4,?g5,?g6,?g7,?g8,?g9,trivial⟩ ?post
      case g0 | g1 | g4 | g5=>
       intro v w1 hx;intro bb hbb;subst hbb;refine ⟨_,fun w=>?_,rfl⟩;go_simp
      case g2 | g6 | g9=>
       intro v w1 hx;(repeat intro (zq:v _ = _));intro bb hbb;subst hbb;refine ⟨_,fun w=>?_,rfl⟩;go_simp
      case g3 | g7=>
       intro v w1 hx;(repeat intro (zq:v _ = _));intro bb hbb;subst hbb;have n0:w1.cell? ⟨b1,off1 + k,none⟩ = some m1:=(hdr.trans hx).cell HC1.out;have n1:w1.cell? ⟨b2,off2 + k,none⟩ = some m2:=(hdr.trans hx).cell HC2.out;intro K hK;go_simp;exact hK _ _ (Ext.refl _) rfl
      case g8=>
       intro v w1 hx;(repeat intro (zq:v _ = _));intro bb hbb;subst hbb;intro K hK;go_simp;refine Q0d (HS.out w1 (hdr.trans hx)) ?_;rintro e w2 ⟨rfl,hx2⟩;exact ⟨_,rfl,hK _ _ hx2 rfl⟩
      case post =>
       intro v w1 hx;(iterate 10 intro (zq:v _ = _));simp only [Flow.All,Flow.acts,Act.put];go_simp;have HX9:=Lib.hid (hxw.trans (hdr.trans hx));clear hx hdr;(repeat clear zq);cases qd with
       | true =>
         have H0:=Lib.hid (of_decide_eq_true HQ.out);go_wp2;go_roundw
         case rel=>exact ⟨k + 1,by omega,by go_num,by rw [<- HR.out,HD1.out,HD2.out,X1a H0.out],HX9.out⟩
         case measure=>simp [intOf]; omega
       | false =>
         have H0:=Lib.hid (of_decide_eq_false HQ.out);go_wp2;go_ret;exact ⟨Q1j (by rw [<- HR.out,HD1.out,HD2.out,X1q H0.out]),HX9.out⟩
    . go_wp2
      go_ret;exact ⟨Q1j (by rw [<- HR.out,List.drop_eq_nil_of_le (by omega),List.drop_eq_nil_of_le (by have:=HLL.out; omega)]; rfl),hxw⟩
 . have hne:((a.length:Int) != (b.length:Int)) = true:=by simp; omega
   have HL:Hid (decide (a = b) = false):=Lib.hid (decide_eq_false (fun h=>hl (by rw [h])))
   clear hl hca hcb;go_wp2;go_ret;exact ⟨Q1j (by rw [HL.out]),Ext.refl _⟩
end Go.Proofs
