/- Contract: the minimal sets that have a property. Plain law: the sorted minimal sets are the reference's sets. Contracts: the error of a set of events; Fails. -/
import Derived.Test.YtghcnlbkghaaeaaDoorPv12
import Derived.Test.YtghcnlbkghaaeaaDoorPv09
set_option maxRecDepth 1000000
set_option maxHeartbeats 64000000
set_option linter.unusedVariables false
set_option linter.unusedSimpArgs false
set_option linter.constructorNameAsVariable false
namespace Go.Proofs
open Go.RowKit Go.Tw Go.Flow Go.Sort
attribute [local go_sem] Oper.semAt_some
def X8o (q:Nat -> Bool) (n x:Nat):Bool:=q x && (List.range n).all fun i=>!(x.testBit i && q (Q1g x (2 ^ i)))
def Q9n (q:Nat -> Bool) (x k:Nat):Bool:=(List.range k).all fun i=>!(x.testBit i && q (Q1g x (2 ^ i)))
theorem X5l (q:Nat -> Bool) (x k:Nat):Q9n q x (k + 1) = (Q9n q x k && !(x.testBit k && q (Q1g x (2 ^ k)))):=by unfold Q9n; rw [List.range_succ,List.all_append]; simp
def minL {N:Nat} (q:Nat -> Bool) (n:Nat) (l:List (Fin N)):List (List Int):=(l.filter fun x=>X8o q n x.1).map fun x=>bitsOf x.1
theorem X8g {N:Nat} (q:Nat -> Bool) (n:Nat) (l:List (Fin N)) (x:Fin N):minL q n (l ++ [x]) = minL q n l ++ if X8o q n x.1 then [bitsOf x.1] else []:=by
 unfold minL;rw [List.filter_append,List.map_append];cases h:X8o q n x.1 <;> simp [h]
theorem X4e {N:Nat} (q:Nat -> Bool) (n:Nat) (l:List (Fin N)):(minL q n l).length <= l.length:=by unfold minL; rw [List.length_map]; exact List.length_filter_le _ _
theorem Y0h {q:Nat -> Bool} {n x:Nat} (h:q x = false):X8o q n x = false:=by unfold X8o; rw [h]; rfl
theorem X3n {q:Nat -> Bool} {n x:Nat} (h:q x = true):X8o q n x = Q9n q x n:=by unfold X8o Q9n; rw [h]; rfl
theorem X4p {q:Nat -> Bool} {n x k:Nat} (hk:k < n) (h:(x.testBit k && q (Q1g x (2 ^ k))) = true):Q9n q x n = false:=by
 unfold Q9n;rw [List.all_eq_false];exact ⟨k,List.mem_range.2 hk,by rw [h]; decide⟩
theorem X1k {α:Type} {W W':World} {base:Nat} {e:TypeId} {enc:α -> Value} {v:Value} {l:List α} (h:Q0f W base e enc v l) (hk:∀ (b:Nat) (o:Obj),W.heap[b]? = some o -> o.isCells = true -> W'.heap[b]? = some o):Q0f W' base e enc v l:=by
 obtain ⟨h1,h2⟩:=h;refine ⟨h1,?_⟩
 rcases h2 with h2 | ⟨g,cap,cur,hv,hbg,hg,r⟩
 . exact .inl h2
 . exact .inr ⟨g,cap,cur,hv,hbg,hk _ _ hg rfl,r⟩
def Coll (g base:Nat) (ll:List (List Int)) (W:World):Prop:=∃ v vs,Blk W g 178 #[v] /\ Q0f W base 182 idV v vs /\ Sets W vs ll
theorem Coll.own {β:Type} (g base:Nat) (f:β -> List (List Int)):Own (fun s W=>Coll g base (f s) W):=by
 intro s W W' row hs hg hr;obtain ⟨v,vs,hb,ho,hst⟩:=hs;have hk:∀ (b:Nat) (o:Obj),W.heap[b]? = some o -> o.isCells = true -> W'.heap[b]? = some o:=fun b o h hc=>(grownBy_keeps_cells hg hr h hc).trans h;exact ⟨v,vs,hk _ _ hb rfl,X1k ho hk,hst.1,fun i hi=>⟨X1k (hst.2 i hi).1 hk,(hst.2 i hi).2⟩⟩
theorem Coll.ext {g base:Nat} {ll:List (List Int)} {W W':World} (h:Coll g base ll W) (hx:Ext W W'):Coll g base ll W':=by
 obtain ⟨v,vs,hb,ho,hst⟩:=h;exact ⟨v,vs,hb.ext hx,ho.below hx,hst.ext hx⟩
theorem Q7j {α:Type} {W W':World} {base:Nat} {e:TypeId} {enc:α -> Value} {v:Value} {l:List α} (h:Q0f W base e enc v l) (hg:W.grownBy W' v.ownBlock):KeepsOthers W W':=by
 refine ⟨hg.size,fun k o hk hc=>?_⟩
 by_cases hr:some k = v.ownBlock
 . obtain ⟨h1,h2⟩:=h
   rcases h2 with ⟨rfl,_⟩ | ⟨g,cap,cur,rfl,hbg,hgc,r⟩
   . cases hr
   . have:k = g:=by simpa [Value.ownBlock] using hr
     subst this;rw [hgc] at hk;injection hk with hk;subst hk;cases hc
 . rw [hg.block k (Array.getElem?_eq_some_iff.1 hk).1 hr]; exact hk
theorem X5s {W W':World} {base:Nat} {v:Value} {vs us:List Value} {ll:List (List Int)} (h:Q0f W base 182 idV v us) (hs:Sets W vs ll) (hg:W.grownBy W' v.ownBlock):Sets W' vs ll:=by
 refine hs.at fun u l hu b hb hbl=>hg.block b hbl fun e=>?_;obtain ⟨h1,h2⟩:=h
 rcases h2 with ⟨rfl,_⟩ | ⟨g,cap,cur,rfl,hbg,hgc,r⟩
 . cases e
 . have:b = g:=by simpa [Value.ownBlock] using e
   subst this;exact X3u hu hgc hb
theorem X0w {α:Type} {W W':World} {base:Nat} {e:TypeId} {enc:α -> Value} {v:Value} {l:List α} {g:Nat} {T:TypeId} {cs:Array Value} (hb:Blk W g T cs) (h:Q0f W base e enc v l) (hlt:g < base) (hg:W.grownBy W' v.ownBlock):Blk W' g T cs:=by
 unfold Blk at *;refine (hg.block g (Array.getElem?_eq_some_iff.1 hb).1 fun e=>?_).trans hb;obtain ⟨h1,h2⟩:=h
 rcases h2 with ⟨rfl,_⟩ | ⟨g',cap,cur,rfl,hbg,hgc,r⟩
 . cases e
 . have:g = g':=by simpa [Value.ownBlock] using e
   omega
theorem Tryd.Y1k:(Tryd.prog.info? 182).map (fun i=>(i.zero,i.size,i.bytes)) = some (some (.slice none 0 0),1,24):=by kernel_rfl
theorem X0q {w w':World} {v:Value} {n sz:Nat} {c:Nat -> Value} (h:Row w v n sz c) (hc:∀ a u,w.cell? a = some u -> w'.cell? a = some u):Row w' v n sz c:=by
 obtain ⟨A,cap,hv,hn,hcap,hj⟩:=h;exact ⟨A,cap,hv,hn,hcap,fun j hjj=>let ⟨b,off,hA,h⟩:=hj j hjj; ⟨b,off,hA,hc _ _ h⟩⟩
theorem X0d {w w':World} {v:Value} {l:List Int} (h:IsInts w v l) (hc:∀ a u,w.cell? a = some u -> w'.cell? a = some u):IsInts w' v l:=let ⟨c,h1,h2⟩:=h; ⟨c,X0q h1 hc,h2⟩
theorem Q5d {w w':World} {v:Value} {l:List (List Int)} (h:IsIntss w v l) (hc:∀ a u,w.cell? a = some u -> w'.cell? a = some u):IsIntss w' v l:=let ⟨c,h1,h2⟩:=h; ⟨c,X0q h1 hc,fun j hj=>X0d (h2 j hj) hc⟩
theorem X9t (w:World) (f:Value):Calls Tryd.prog 144 #[.slice none 0 0,.int .i64 0,.int .i64 0,f] w fun e w'=>e = .returned (.tuple #[]) /\ w = w':=by
 go_enter Tryd.func144,Tryd.ntmps144;go_wp2_with (apply wp_loop_once)
 go_end0
 exact ⟨rfl,rfl⟩
theorem Y0b (w:World) (f:Value) (m:Int):Calls Tryd.prog 129 #[.slice none 0 0,.int .i64 0,.int .i64 0,.int .i64 m,f] w fun e w'=>e = .returned (.tuple #[]) /\ w = w':=by
 go_enter Tryd.func129,Tryd.ntmps129;go_wp2_with (first | (apply wp_loop_once) | (go_at_call 144; refine (X9t _ _).mono ?_; rintro e w' ⟨rfl,rfl⟩))
 refine bodyPost_ret (results_none rfl _ _ _) rfl ?_;exact ⟨rfl,rfl⟩
theorem X8e (w:World):Calls Tryd.prog 108 #[.slice none 0 0,.func (.func 109) #[] #[]] w fun e w'=>e = .returned (.tuple #[]) /\ w = w':=by
 have hlen:=Tryd.bits_Len 0;generalize ((Lib.bitLen (Int.toNat 0):Nat):Int) = m at hlen;go_enter Tryd.func108,Tryd.ntmps108;go_wp2_with (first | (go_at_call 130; refine (hlen _ (by omega) (by omega)).mono ?_; rintro e w' ⟨rfl,rfl⟩) | (go_at_call 129; refine (Y0b _ _ _).mono ?_; rintro e w' ⟨rfl,rfl⟩))
 go_end0
 exact ⟨rfl,rfl⟩
theorem Q7r {c:Code} {n:Nat} {P:Program} {Q:Exit -> Act -> World -> Prop} {a:Act} {w:World} (h:c.wpIn Fence.wide n P (Exit.noGoto Q) a w):(Code.scope c).wpIn Fence.wide n P Q a w:=wpIn_wide.2 (wp_scope_straight (wpIn_wide.1 h))
theorem Q7m {w:World} {v:Value} {l:List Int} {g:Nat} {cs:Array Value} {T:TypeId} (hT:T ≠ 3) (h:Q0f w 0 3 (.int .i64) v l) (hg:Blk w g T cs):v.ownBlock ≠ some g:=by
 intro e;obtain ⟨h1,h2⟩:=h
 rcases h2 with ⟨rfl,_⟩ | ⟨g',cap,cur',rfl,hbg,hg',r⟩
 . cases e
 . obtain rfl:g' = g:=by simpa [Value.ownBlock] using e
   unfold Blk at hg;rw [hg] at hg';injection hg' with h;injection h with _ h;exact hT h
theorem X0t {W:World} {vs:List Value} {ll:List (List Int)} {g k:Nat} {T:TypeId} {cs:Array Value} {u:Value} (hs:Sets W vs ll) (hb:Blk W g T cs) (hT:T ≠ 3):Sets (W.setCell ⟨g,k,none⟩ u) vs ll :=
 hs.at fun _ _ hv b hbv _=>Q1x _ _ _ b fun e=>Q7m hT hv hb (by rw [hbv]; exact congrArg some e)
theorem Y2p {k Z:Nat} (hZ:2 ^ k = Z) (h:Z < 2 ^ 62):IntKind.i64.wrap ((2:Int) ^ k) = (Z:Int):=by
 rw [show ((2:Int) ^ k) = ((2 ^ k:Nat):Int) by simp,hZ]
 exact Q2x _ (by omega) (by omega)
theorem Tryd.X9v (w:World):(sizeOf 178).run Tryd.prog w = .ok 1 w:=by kernel_rfl
theorem X1j (w:World) (fv gv:Value) (t:Tree) (c:List Int) (hf:Nat) (rv:Value) (q:Nat -> Bool) (hv:Valid t) (hn:X6f w fv gv t) (hT:Tab w) (eg:∀ args w,(callFunc hf args).run Tryd.prog w = .ok (.enter hf args) w)
    (hq:∀ (W:World) (s:Nat),Ext w W -> s < 2 ^ t.size -> Calls Tryd.prog hf #[rv,.int .i64 s] W fun e W'=>e = .returned (.bool (q s)) /\ Ext W W') :
    Calls Tryd.prog 70 #[noV t c fv gv,.func (.func hf) #[rv] #[]] w fun e w'=>∃ x ll,e = .returned x /\ IsIntss w' x ll /\ ll.Perm (minL q t.size (List.finRange (2 ^ t.size))) /\ Sorted ll /\ Ext w w':=by
 obtain ⟨i0,hi,hz0,hz1,hz2⟩:=info_parts Tryd.Y1k;obtain ⟨A1,cap1,rfl,_,_,_⟩:=hn.fails.opened;obtain ⟨A2,cap2,rfl,_,_,_⟩:=hn.gates.opened;rw [Q1w] at hn ⊢;have HN:=Lib.hid hn;have HV:=Lib.hid hv;have HQ:=Lib.hid hq;have HT:=Lib.hid hT;have hsz:=hv.size;clear hn hv hq hT;unfold noV;refine (callsIn_wide (n:=9)).1 ?_;refine callsIn_of_wp_marks Tryd.func70 rfl trivial ?_ rfl;simp only [Tryd.ntmps70,List.size_toArray,List.length_cons,List.length_nil,Nat.reduceAdd,Nat.reduceSub,Array.replicate_succ,Array.replicate_zero,List.push_toArray,List.append_toArray,List.nil_append,List.cons_append]
 gi_wp2_with (first | (apply Q7r) | (apply wpIn_label) | (simp only [Exit.noGoto]) | (refine (show Fence.wide.fn _ /\ _ from ⟨trivial,?_⟩); gi_at_call 106; refine (callsIn_wide.2 (X0o _ t c A1 t.size cap1)).mono ?_; rintro e w' ⟨rfl,hce,hse,hxe⟩))
 simp only [World.size_alloc];have es0:(w.alloc (.cells (outA t.size (.slice A1 t.size cap1) c t.basics.length (.slice A2 t.gates.length cap2)) 131)).heap.size = w.heap.size + 1:=by simp
 have k0:=Blk.made w 131 (outA t.size (.slice A1 t.size cap1) c t.basics.length (.slice A2 t.gates.length cap2));have x0:=Ext.box w (.cells (outA t.size (.slice A1 t.size cap1) c t.basics.length (.slice A2 t.gates.length cap2)) 131);replace hxe:Ext (((w.alloc (.cells (outA t.size (.slice A1 t.size cap1) c t.basics.length (.slice A2 t.gates.length cap2)) 131)).alloc (.cells #[.func (.func hf) #[rv] #[]] 123)).alloc (.cells #[.slice none 0 0] 178)) w':=hxe;replace hce:w'.cell? ⟨(((w.alloc (.cells (outA t.size (.slice A1 t.size cap1) c t.basics.length (.slice A2 t.gates.length cap2)) 131)).alloc (.cells #[.func (.func hf) #[rv] #[]] 123)).alloc (.cells #[.slice none 0 0] 178)).heap.size,0,none⟩ = some (.int .i64 t.size):=hce;replace hse:w'.heap.size = (((w.alloc (.cells (outA t.size (.slice A1 t.size cap1) c t.basics.length (.slice A2 t.gates.length cap2)) 131)).alloc (.cells #[.func (.func hf) #[rv] #[]] 123)).alloc (.cells #[.slice none 0 0] 178)).heap.size + 1:=hse;obtain ⟨X0,hX0⟩:∃ X,(w.alloc (.cells (outA t.size (.slice A1 t.size cap1) c t.basics.length (.slice A2 t.gates.length cap2)) 131)) = X:=⟨_,rfl⟩;rw [hX0] at hxe hce hse k0 x0 es0;have k1:=Blk.made X0 123 #[.func (.func hf) #[rv] #[]];have x1:=Ext.box X0 (.cells #[.func (.func hf) #[rv] #[]] 123);have es1:(X0.alloc (.cells #[.func (.func hf) #[rv] #[]] 123)).heap.size = X0.heap.size + 1:=by simp
 obtain ⟨X1,hX1⟩:∃ X,X0.alloc (.cells #[.func (.func hf) #[rv] #[]] 123) = X:=⟨_,rfl⟩;rw [hX1] at hxe hce hse k1 x1 es1;have k2:=Blk.made X1 178 #[.slice none 0 0];have x2:=Ext.box X1 (.cells #[.slice none 0 0] 178);have es2:(X1.alloc (.cells #[.slice none 0 0] 178)).heap.size = X1.heap.size + 1:=by simp
 obtain ⟨X2,hX2⟩:∃ X,X1.alloc (.cells #[.slice none 0 0] 178) = X:=⟨_,rfl⟩;rw [hX2] at hxe hce hse k2 x2 es2;clear hX0 hX1 hX2;replace k0:=(k0.ext x1).ext (x2.trans hxe);replace k1:=k1.ext (x2.trans hxe);replace k2:=k2.ext hxe;have XW:Ext w w':=((x0.trans x1).trans x2).trans hxe;have e1:X0.heap.size = w.heap.size + 1:=es0;have e2:X1.heap.size = w.heap.size + 1 + 1:=by omega
 have e3:X2.heap.size = w.heap.size + 1 + 1 + 1:=by omega
 have e5:w'.heap.size = w.heap.size + 1 + 1 + 1 + 1:=by omega
 rw [e1] at k1;rw [e2] at k2;rw [e3] at hce;clear es0 es1 es2 e1 e2 e3 hse x0 x1 x2 hxe;have HXW:=Lib.hid XW;clear XW;refine wpIn_rangeFunc_ownF (n:=9) rfl (by omega) (gf:=127) (lb:=#[.pointer (some ⟨w.heap.size + 1 + 1 + 1,0,none⟩)]) rfl trivial (enters_of Tryd.func127 (by kernel_rfl) rfl)
  (Q8p _ (w.heap.size + 1 + 1 + 1) (2 ^ t.size) w' t rfl hsz hce) (fun _ _=>trivial) (fun _ _ _ _ _ _ _ _=>trivial) (Below.refl _ _) (fun _=>rfl)
  (fun pre W=>Coll (w.heap.size + 1 + 1) (w.heap.size + 1 + 1 + 1) (minL q t.size pre) W /\ Below (w.heap.size + 1 + 1) w' W)
  (fun _ _ _=>False)
  (OwnFrom.and (Own.from (Coll.own _ _ _) _) (ownFrom_below (by omega) (by omega)))
  (fun _ _ _ _ _ hs _ _=>hs)
  ⟨⟨_,[],k2,Q0f.nil _ _ _ _,Sets.nil _⟩,Below.refl _ _⟩
  (fun x=>{ tmps:=#[noV t c (.slice A1 t.size cap1) (.slice A2 t.gates.length cap2),.func (.func hf) #[rv] #[],.pointer (some ⟨w.heap.size,0,none⟩),.pointer (some ⟨w.heap.size + 1,0,none⟩),.slice none 0 0,.pointer (some ⟨w.heap.size + 1 + 1,0,none⟩),.int .i64 x.1,undef,.pointer (some ⟨w.heap.size,0,none⟩),evV t c (.slice A1 t.size cap1),.func (.func 127) #[] #[.pointer (some ⟨w.heap.size + 1 + 1 + 1,0,none⟩)],.int .i64 x.1,undef,undef,undef,undef,undef,undef,undef,undef,undef,undef,undef,undef,undef,undef,undef,undef,undef,undef,undef,undef,undef,undef,undef,undef,undef,undef,undef,undef,undef,undef,undef,undef,undef],defers:=[] }) ?assign ?body ?done ?stop
 case assign =>
  intro l x W K hK
  gi_wp2
  exact hK
 case stop =>
  rintro D cc pre W _ _ h _;exact h.elim
 case done =>
  rintro D ys W hD rfl ⟨hC,hB⟩ hK;obtain ⟨v,vs,hb,ho,hst⟩:=hC;have hcell:W.cell? ⟨w.heap.size + 1 + 1,0,none⟩ = some v:=hb.cell 0;have HST:=Lib.hid hst;have hlen:=X4e q t.size (List.finRange (2 ^ t.size));rw [List.length_finRange] at hlen;have h12:(2:Nat) ^ t.size <= 2 ^ 12:=Nat.pow_le_pow_right (by omega) hsz
  have hvl:vs.length <= 4096:=by rw [hst.1]; omega
  have HLEN:Hid ((minL q t.size (List.finRange (2 ^ t.size))).length <= 4096):=Lib.hid (by omega)
  rcases ho.cells2 with ⟨rfl,hve⟩ | ⟨g0,cc,rfl,hcc,hbg,hgl,hcl⟩
  . subst hve
    have hz:minL q t.size (List.finRange (2 ^ t.size)) = []:=List.length_eq_zero_iff.1 (by have:=hst.1; simpa using this.symm)
    have HZ:=Lib.hid hz;clear hst hlen h12 hz;have HBL:=Lib.hid hb;clear ho hb
    gi_wp2_with (first | (refine ⟨trivial,?_⟩; gi_at_call 108; refine (callsIn_wide.2 (X8e _)).mono ?_; rintro e w2 ⟨rfl,rfl⟩) | (refine ⟨trivial,?_⟩; gi_at_call 110; refine (callsIn_wide.2 (Q7p _ _ [] (Rows.nil _ _ _) (by simp))).mono ?_; rintro e w3 ⟨xv,rfl,hxv,hx3⟩) | (simp only [Exit.noGoto]))
    have hK3:=(hx3.block D (Array.getElem?_eq_some_iff.1 hK).1).trans hK;have hX3:Below w.heap.size w w3:=Below.trans (Below.trans HXW.out (hB.mono (by omega))) (Below.mono hx3 (Nat.le_trans HXW.out.size hB.size))
    refine ⟨by simp,.inl ⟨_,_,rfl,run_takeDeferred hK3,?_⟩⟩
    exact ⟨_,results_tmp rfl _ _ _,xv,[],rfl,Q5d hxv (fun a u h=>cell_kept h (grownBy_putObj' _ D (.deferred none)) (fun r e=>by cases e; exact ⟨_,hK3,rfl⟩)),by rw [HZ.out],List.Pairwise.nil,Below.trans hX3 (belowK_b (w:=w) (Nat.le_refl _) w3 D _ _ (by omega) hK3 rfl rfl)⟩
  . clear hst hlen h12
    have HO:=Lib.hid ho;have HBL:=Lib.hid hb;have HCL:Hid (Calls Tryd.prog 108 #[.slice (some ⟨g0,0,none⟩) vs.length cc,.func (.func 109) #[] #[]] W fun e w'=>e = .returned (.tuple #[]) /\ ∃ ll',ll'.Perm (minL q t.size (List.finRange (2 ^ t.size))) /\ Sorted ll' /\ IsIntss w' (.slice (some ⟨g0,0,none⟩) vs.length cc) ll' /\ W.grownBy w' (some g0)):=by
     have:=X8t W g0 cc _ vs _ HO.out HST.out HLEN.out;rw [<- HST.out.1] at this;exact this
    clear ho hb hcl
    gi_wp2_with (first | (refine ⟨trivial,?_⟩; gi_at_call 108; refine (callsIn_wide.2 HCL.out).mono ?_; rintro e w2 ⟨rfl,ll,hperm,hso,hii,hgr⟩; have hcell2:w2.cell? ⟨w.heap.size + 1 + 1,0,none⟩ = some (.slice (some ⟨g0,0,none⟩) vs.length cc):=(X0w HBL.out HO.out (by omega) hgr).cell 0; have HPERM:=Lib.hid hperm; have HSO:=Lib.hid hso; have HII:=Lib.hid hii; have HGR:=Lib.hid hgr; clear hperm hso hii hgr) | (refine ⟨trivial,?_⟩; gi_at_call 110; refine (callsIn_wide.2 (Q7p _ _ ll HII.out (by rw [HPERM.out.length_eq]; exact HLEN.out))).mono ?_; rintro e w3 ⟨xv,rfl,hxv,hx3⟩) | (simp only [Exit.noGoto]))
    have hK2:=(Q7j HO.out HGR.out).same D _ hK rfl;have hK3:=(hx3.block D (Array.getElem?_eq_some_iff.1 hK2).1).trans hK2;have hX3:Below w.heap.size w w3:=Below.trans (Below.trans (Below.trans HXW.out (hB.mono (by omega))) (Below.grown (Below.refl _ _) HGR.out (by omega) (fun k hk=>by cases hk; omega))) (Below.mono hx3 (Nat.le_trans HXW.out.size (Nat.le_trans hB.size HGR.out.size)))
    refine ⟨by simp,.inl ⟨_,_,rfl,run_takeDeferred hK3,?_⟩⟩
    exact ⟨_,results_tmp rfl _ _ _,xv,ll,rfl,Q5d hxv (fun a u h=>cell_kept h (grownBy_putObj' _ D (.deferred none)) (fun r e=>by cases e; exact ⟨_,hK3,rfl⟩)),HPERM.out,HSO.out,Below.trans hX3 (belowK_b (w:=w) (Nat.le_refl _) w3 D _ _ (by omega) hK3 rfl rfl)⟩
 case body =>
  rintro l pre ⟨x,hxN⟩ W ⟨hC,hB⟩ hpl;dsimp only;have h12:(2:Nat) ^ t.size <= 2 ^ 12:=Nat.pow_le_pow_right (by omega) hsz
  have b0:=k0.below hB (by omega)
  have b1:=k1.below hB (by omega)
  have c0:W.cell? ⟨w.heap.size,0,none⟩ = some (.int .i64 t.size):=b0.cell 0;have c1:W.cell? ⟨w.heap.size + 1,0,none⟩ = some (.func (.func hf) #[rv] #[]):=b1.cell 0;have hxw:Ext w W:=Below.trans HXW.out (hB.mono (by omega))
  have HSN:=Lib.hid (X8g q t.size pre ⟨x,hxN⟩);have HXX:=Lib.hid hxw;have HB:=Lib.hid hB;have HC:=Lib.hid hC;clear hxw hB hC b0 b1;cases hqx:q x with
  | false =>
    have HQX:=Lib.hid hqx
    gi_wp2_with (first | (refine ⟨trivial,?_⟩; refine (CallsIn.inRound l (callsIn_wide.2 (HQ.out _ x HXX.out hxN))).mono ?_; rw [hqx]; rintro e w9 ⟨rfl,hx9⟩) | (refine (CallsIn.inRound l (callsIn_wide.2 (HQ.out _ x HXX.out hxN))).mono ?_; rw [hqx]; rintro e w9 ⟨rfl,hx9⟩))
    exact ⟨Q2i hx9,trivial,by rw [HSN.out,if_neg (by rw [Y0h HQX.out]; decide),List.append_nil]; exact HC.out.ext hx9,HB.out.trans (hx9.mono (by have:=HB.out.size; omega))⟩
  | true =>
    gi_wp2_with (first | (refine ⟨trivial,?_⟩; refine (CallsIn.inRound l (callsIn_wide.2 (HQ.out _ x HXX.out hxN))).mono ?_; rw [hqx]; rintro e w9 ⟨rfl,hx9⟩; have c0':=hx9.cell c0; have c1':=hx9.cell c1) | (refine (CallsIn.inRound l (callsIn_wide.2 (HQ.out _ x HXX.out hxN))).mono ?_; rw [hqx]; rintro e w9 ⟨rfl,hx9⟩; have c0':=hx9.cell c0; have c1':=hx9.cell c1))
    have HQX:=Lib.hid hqx;have hww:w.heap.size + 1 + 1 < W.heap.size:=by have:=HB.out.size; omega
    clear c0 c1 hqx
    gi_loopw [19] (fun i wr=>∃ k:Nat,k <= t.size /\ i = .int .i64 k /\ Q9n q x k = true /\ Ext w9 wr) (fun i _=>t.size - (intOf i).toNat)
    case atStart=>exact ⟨0,Nat.zero_le _,rfl,rfl,Ext.refl _⟩
    case round =>
     obtain ⟨k,hk,rfl,hmin,hxr⟩:=hrel;replace c0':=hxr.cell c0';replace c1':=hxr.cell c1'
     by_cases hlt:k < t.size
     . have hb1:=Q4y (s:=x) (by omega) k
       have hp1:=X6k (n:=k) (by omega)
       have hp2:(2:Nat) ^ k < 2 ^ 62:=Nat.pow_lt_pow_right (by omega) (by omega)
       have han:=X3x (a:=x) (b:=2 ^ k) (by omega) hp2
       have hcl:=Q3z (2 ^ k) hxN;have HMS:=Lib.hid (X5l q x k);have HST:Hid ((x.testBit k && q (Q1g x (2 ^ k))) = true -> Q9n q x t.size = false):=Lib.hid (fun h=>X4p hlt h);obtain ⟨Z,hZ⟩:∃ Z,2 ^ k = Z:=⟨_,rfl⟩;obtain ⟨Y,hY⟩:∃ Y,Q1g x Z = Y:=⟨_,rfl⟩;obtain ⟨bt,hbt⟩:∃ bt,x.testBit k = bt:=⟨_,rfl⟩;obtain ⟨qy,hqy⟩:∃ qy,q Y = qy:=⟨_,rfl⟩;obtain ⟨nb,hnb⟩:∃ nb,(!bt) = nb:=⟨_,rfl⟩;rw [hZ] at hp1 hp2 han hcl HMS HST;have hpw:IntKind.i64.wrap ((2:Int) ^ k) = (Z:Int):=Y2p hZ hp2;rw [hY,hqy,hbt] at HMS HST;rw [hY] at han hcl;rw [hbt] at hb1;have hbn:bt = !nb:=by rw [<- hnb,Bool.not_not]
       rw [hbn] at hb1 HMS HST;have HQY:Hid (∀ W',Ext w W' -> Calls Tryd.prog hf #[rv,.int .i64 Y] W' fun e W''=>e = .returned (.bool qy) /\ Ext W' W''):=Lib.hid (by intro W' hx; rw [<- hqy]; exact HQ.out W' Y hx hcl)
       have HMIN:=Lib.hid hmin;have hkI:(k:Int) < 12:=by omega
       clear hZ hY hqy hbt hnb hbn hmin hp2 hcl h12;have hdr:=(Ext.refl wr).drew;have hxx:=(HXX.out.trans hx9).trans hxr;have HXS:=Lib.hid hxx;clear hxx
       gi_wp2
       refine Flow.X9j [.p,.p,.p,.p,.p,.p,.w,.p,.p,.p,.p,.w,.p] [0,1,2,3,4,5,6,7,8,9,10,11,12] [[],[],[0,1],[2],[3],[4],[5],[5],[5],[5,8],[5,7,9],[5,6,10],[5,11]]
        [.c 0 (.int .i64 x),.c 1 (.int .i64 k),.c 2 (.int .i64 ((x:Int) / 2 ^ k)),.c 3 (.int .i64 (bits .and .i64 ((x:Int) / 2 ^ k) 1)),.c 4 (.bool (!nb)),.c 5 (.bool (!nb)),.c 6 (Q2b nb (.func (.func hf) #[rv] #[])),.c 7 (Q2b nb (.int .i64 x)),.c 8 (Q2b nb (.int .i64 k)),.c 9 (Q2b nb (.int .i64 (Z:Nat))),.c 10 (Q2b nb (.int .i64 (Y:Nat))),.c 11 (Q2b nb (.bool qy)),.c 12 (.bool (!nb && qy))]
        (by kernel_rfl) (by kernel_rfl) rfl (by kernel_rfl) ⟨?g0,?g1,?g2,?g3,?g4,?g5,?g6,?g7,?g8,?g9,?g10,?g11,?g12,trivial⟩ ?post
       case g0 | g1=>
        intro v w1 hx;have c1':=hx.cell c1';refine ⟨_,fun w=>?_,rfl⟩;go_simp
       case g2 | g3 | g4 | g5=>
        intro v w1 hx;(repeat intro (zq:v _ = _));have c1':=hx.cell c1';refine ⟨_,fun w=>?_,rfl⟩;go_simp
       case g6=>
        intro v w1 hx;(repeat intro (zq:v _ = _));have c1':=hx.cell c1';cases nb with
        | true=>exact .inr ⟨by go_simp,rfl⟩
        | false =>
          refine .inl ⟨by go_simp,?_⟩
          intro K hK;go_simp;exact hK _ _ (Ext.refl _) rfl
       case g7 | g8=>
        intro v w1 hx;(repeat intro (zq:v _ = _));have c1':=hx.cell c1';cases nb with
        | true=>exact .inr ⟨by go_simp,rfl⟩
        | false =>
          refine .inl ⟨by go_simp,?_⟩
          refine ⟨_,fun w=>?_,rfl⟩;go_simp
       case g9=>
        intro v w1 hx (q5:v 5 = _) (q8:v 8 = Q2b nb (.int .i64 k));have c1':=hx.cell c1';cases nb with
        | true=>exact .inr ⟨by go_simp,rfl⟩
        | false =>
          replace q8:v 8 = .int .i64 k:=q8;refine .inl ⟨by go_simp,?_⟩
          refine ⟨_,fun w=>?_,rfl⟩;go_simp
       case g10=>
        intro v w1 hx (q5:v 5 = _) (q7:v 7 = Q2b nb (.int .i64 x)) (q9:v 9 = Q2b nb (.int .i64 (Z:Nat)));have c1':=hx.cell c1';cases nb with
        | true=>exact .inr ⟨by go_simp,rfl⟩
        | false =>
          replace q7:v 7 = .int .i64 x:=q7;replace q9:v 9 = .int .i64 (Z:Nat):=q9;refine .inl ⟨by go_simp,?_⟩
          refine ⟨_,fun w=>?_,rfl⟩;go_simp
       case g11=>
        intro v w1 hx (q5:v 5 = _) (q6:v 6 = Q2b nb (.func (.func hf) #[rv] #[])) (q10:v 10 = Q2b nb (.int .i64 (Y:Nat)));have c1':=hx.cell c1';cases nb with
        | true=>exact .inr ⟨by go_simp,rfl⟩
        | false =>
          refine .inl ⟨by go_simp,?_⟩
          intro K hK;replace q6:v 6 = .func (.func hf) #[rv] #[]:=q6;replace q10:v 10 = .int .i64 (Y:Nat):=q10;go_simp;refine Q0b (HQY.out w1 (HXS.out.trans (hdr.trans hx))) ?_;rintro e w2 ⟨rfl,hx2⟩;exact ⟨_,rfl,hK _ _ hx2 rfl⟩
       case g12=>
        intro v w1 hx (q5:v 5 = _) (q11:v 11 = Q2b nb (.bool qy));have c1':=hx.cell c1';refine ⟨.bool (!nb && qy),fun w=>?_,rfl⟩;cases nb with
        | true=>go_simp
        | false=>go_simp; rfl
       case post =>
        intro v w1 hx;(iterate 6 intro (zq:v _ = _));intro (q6:v 6 = Q2b nb (.func (.func hf) #[rv] #[])) (q7:v 7 = Q2b nb (.int .i64 x)) (q8:v 8 = Q2b nb (.int .i64 k)) (q9:v 9 = Q2b nb (.int .i64 (Z:Nat))) (q10:v 10 = Q2b nb (.int .i64 (Y:Nat))) (q11:v 11 = Q2b nb (.bool qy));(iterate 1 intro (zq:v _ = _));simp only [Flow.All,Flow.acts,Act.put];go_simp;cases nb with
        | true =>
          simp only [Bool.not_true,Bool.false_and]
          gi_wp2
          go_roundw
          case rel=>exact ⟨k + 1,by omega,by go_num,by rw [HMS.out,HMIN.out]; rfl,hxr.trans (hdr.trans hx)⟩
          case measure=>simp [intOf]; omega
        | false =>
          cases qy with
          | true =>
            simp only [Bool.not_false,Bool.true_and]
            gi_wp2
            exact ⟨(Q2i hx9).trans (Q2i (hxr.trans (hdr.trans hx))),trivial,by rw [HSN.out,if_neg (by rw [X3n HQX.out,HST.out rfl]; decide),List.append_nil]; exact (HC.out.ext hx9).ext (hxr.trans (hdr.trans hx)),HB.out.trans ((hx9.trans (hxr.trans (hdr.trans hx))).mono (by omega))⟩
          | false =>
            simp only [Bool.not_false,Bool.true_and]
            gi_wp2
            go_roundw
            case rel=>exact ⟨k + 1,by omega,by go_num,by rw [HMS.out,HMIN.out]; rfl,hxr.trans (hdr.trans hx)⟩
            case measure=>simp [intOf]; omega
     . have hks:k = t.size:=by omega
       have HMB:Hid (X8o q t.size x = true):=by rw [X3n HQX.out,<- hks,hmin]; exact rfl
       obtain ⟨v,vs,hb,ho,hst⟩:=(HC.out.ext hx9).ext hxr;have hxx:=(HXX.out.trans hx9).trans hxr;have hsn:=HSN.out;rw [if_pos HMB.out] at hsn;have HSN2:=Lib.hid hsn;have hvl:vs.length <= 4096:=by
        have h1:=hst.1;have h2:=X4e q t.size pre;omega
       have hsize:W.heap.size <= wr.heap.size:=Nat.le_trans hx9.size hxr.size;have hdr:=(Ext.refl wr).drew;have HW:=Lib.hid ((hx9.trans hxr).trans hdr);have HTW:=Lib.hid (HT.out.ext hxx);have cv:wr.cell? ⟨w.heap.size + 1 + 1,0,none⟩ = some v:=hb.cell 0;have fv:wr.frozen? ⟨w.heap.size + 1 + 1,0,none⟩ = false:=hb.frozen 0;obtain ⟨bv,cvv,hvs,hcapv⟩:=ho.shape;subst hvs;have HO:=Lib.hid ho;have HBK:=Lib.hid hb;have HS:=Lib.hid hst;have hx16:x < 65536:=by omega
       have hbl:=Q8x x;clear hks hmin hsn hxx ho hb hst hx9 hxr c0' c1' h12
       gi_wp2
       refine Flow.X2f [.w,.p,.w,.w,.last,.last] [0,1,2,3,4,5] [[],[],[1],[1,2],[0,1,2,3],[0,1,2,3,4]] [4,5]
        [.c 0 (.slice bv vs.length cvv),.c 1 (.int .i64 x),⟨fun v wz=>(fun v w'=>Q0f w' 0 3 (.int .i64) (v 2) (bitsOf x)) v wz,fun _ _ _ hx h=>Q0f.below h hx⟩,⟨fun v wz=>(fun v w'=>Q2m w' (v 3) (v 2)) v wz,fun _ _ _ hx h=>Q2m.ext h hx⟩,.none,.none]
        [fun v w1 w'=>Q0f w' (w.heap.size + 1 + 1 + 1) 182 idV (v 4) (vs ++ [v 2]) /\ w1.grownBy w' (Value.slice bv vs.length cvv).ownBlock,fun v w1 w'=>Coll (w.heap.size + 1 + 1) (w.heap.size + 1 + 1 + 1) (minL q t.size pre ++ [bitsOf x]) w' /\ RowKit.Below (w.heap.size + 1 + 1) w1 w' /\ KeepsOthers w1 w'] (by kernel_rfl) (by kernel_rfl) rfl (by kernel_rfl) ⟨?g0,?g1,?g2,?g3,?g4,?g5,trivial⟩ ?post
       case g0=>
        intro v w1 hx;have cv:=hx.cell cv;intro K hK;go_simp;exact hK _ _ (Ext.refl _) rfl
       case g1=>
        intro v w1 hx;refine ⟨_,fun w=>?_,rfl⟩;go_simp
       case g2=>
        intro v w1 hx;(repeat intro (zq:v _ = _));have cv:=hx.cell cv;intro K hK;go_simp;refine Q0b (X3b w1 x hx16 (HTW.out.ext (hdr.trans hx))) ?_;rintro e w2 ⟨u,rfl,h,hx2⟩;exact ⟨_,rfl,hK _ _ hx2 (h.weaken (Nat.zero_le _))⟩
       case g3=>
        intro v w1 hx (q1:v 1 = _) (q2:(fun v w'=>Q0f w' 0 3 (.int .i64) (v 2) (bitsOf x)) v w1);have cv:=hx.cell cv;intro K hK;obtain ⟨b2,c2,hv2,_⟩:=Q0f.shape q2;go_simp;exact hK _ _ (Ext.box _ _) (show Q2m (w1.alloc (.cells #[.slice b2 (bitsOf x).length c2] 182)) (.slice (some ⟨w1.heap.size,0,none⟩) 1 1) (v 2) from by rw [hv2]; exact Q2m.made _ _ _)
       case g4=>
        intro v w1 hx (q0:v 0 = _) (q1:v 1 = _) (q2:(fun v w'=>Q0f w' 0 3 (.int .i64) (v 2) (bitsOf x)) v w1) (q3:(fun v w'=>Q2m w' (v 3) (v 2)) v w1);intro wl hT;obtain rfl:wl = w1:=hT;intro bb hbb;subst hbb;have cv:=hx.cell cv;intro K hK;obtain ⟨b2,c2,hv2,_⟩:=Q0f.shape q2;refine Q6g _ _ 178 rfl (w.heap.size + 1 + 1 + 1) 182 i0 (.slice none 0 0) 24 Tryd.underlying178 hi hz0 hz1 hz2 rfl idV (.slice bv vs.length cvv) (v 3) vs [v 2] (by go_simp) (HO.out.below (hdr.trans hx)) (by go_simp) (Q2m.src q3) (fun y hy=>by rw [List.mem_singleton] at hy; rw [hy,hv2]; rfl) (by rw [List.length_singleton]; omega) (by decide) (by have:=hx.size; have:wr.drew.heap.size = wr.heap.size:=rfl; omega) (fun v' w' hown hg=>hK _ _ ⟨hown,hg⟩)
       case g5=>
        intro v w1 hx (q0:v 0 = _) (q1:v 1 = _) (q2:(fun v w'=>Q0f w' 0 3 (.int .i64) (v 2) (bitsOf x)) v w1) _;intro wl hT;replace hT:(fun v w1 w'=>Q0f w' (w.heap.size + 1 + 1 + 1) 182 idV (v 4) (vs ++ [v 2]) /\ w1.grownBy w' (Value.slice bv vs.length cvv).ownBlock) v w1 wl:=hT;intro bb hbb;have cv:=hx.cell cv;intro K hK;obtain ⟨hT1,hT2⟩:=hT;have o1:bb.eval (.tmp 5) = .pointer (some ⟨w.heap.size + 1 + 1,0,none⟩):=by rw [hbb]; dsimp only; (try simp (discharger:=decide) only [eval_put_ne]); rfl
        have o2:bb.eval (.tmp 40) = v 4:=by rw [hbb]; dsimp only; (try simp (discharger:=decide) only [eval_put_ne]); rw [Q0a (by simp only [size_put]; exact (by decide:40 < 45))]
        obtain ⟨b4,c4,hv4,_⟩:=Q0f.shape hT1;have hx':=hdr.trans hx;have hbk:=X0w (HBK.out.ext hx') (HO.out.below hx') (by omega) hT2
        have hss:=X5s (HO.out.below hx') ((HS.out.ext hx').snoc q2 hbl) hT2;exact Q2a (.tmp 5) (.tmp 40) rfl Tryd.X9v o1 o2 (by rw [hv4]; rfl) (by rw [hv4]; rfl) hbk Nat.zero_lt_one (fun vv=>hK _ _ ⟨⟨v 4,vs ++ [v 2],hbk.set 0 _,hT1.setCell (Nat.lt_succ_self _) _,X0t hss hbk (by decide)⟩,(Go.Tw.below_grown (HO.out.below hx') hT2 (Nat.le_succ _) (Nat.le_trans (by omega) hx'.size)).setCell (p:=⟨w.heap.size + 1 + 1,0,none⟩) (Nat.le_refl _) _,(Q7j (HO.out.below hx') hT2).trans (KeepsOthers.setCell _ _ _)⟩)
       case post =>
        intro v w1 hx (q0:v 0 = _) (q1:v 1 = _) (q2:(fun v w'=>Q0f w' 0 3 (.int .i64) (v 2) (bitsOf x)) v w1) (q3:(fun v w'=>Q2m w' (v 3) (v 2)) v w1);intro w2 hE;replace hE:(fun v w1 w'=>Coll (w.heap.size + 1 + 1) (w.heap.size + 1 + 1 + 1) (minL q t.size pre ++ [bitsOf x]) w' /\ RowKit.Below (w.heap.size + 1 + 1) w1 w' /\ KeepsOthers w1 w') v w1 w2:=hE;simp only [Flow.acts,Act.put];go_simp;obtain ⟨e1,e2,e3⟩:=hE
        gi_wp2
        exact ⟨(Q2i (HW.out.trans hx)).trans e3,trivial,by rw [HSN2.out]; exact e1,(HB.out.trans ((HW.out.trans hx).mono (by omega))).trans e2⟩
end Go.Proofs
namespace Go.Proofs
open Go.RowKit Go.Tw Go.Flow
theorem X1c:∀ a b:List Int,a.length = b.length -> (lessB a b = true ↔ cmpL a b < 0)
 | [],[],_=>by simp [lessB,cmpL]
 | [],_ :: _,h=>by simp at h
 | _ :: _,[],h=>by simp at h
 | x :: l,y :: m,h=>by
   rw [Q1y];show (if x = y then lessB l m else decide (x < y)) = true ↔ _
   split
   . rename_i hxy
     rw [X1c l m (by simpa using h)]
     simp [hxy]
   . rename_i hxy
     simp [hxy]
theorem Q8y (a b:List Int):beforeB a b = true ↔ Q1m a b < 0:=by
 rw [Q3r];unfold beforeB
 split
 . rename_i h; rw [X1c _ _ h]; simp [h]
 . rename_i h; simp [h]
theorem X1v {a b:List Int} (h:Q1m a b < 0):¬ Q1m b a < 0:=fun h'=>Q4t _ (Q2o h h')
theorem X4j (l:List Int) (out:List (List Int)):∀ n,(posBack l out n = 0 ∨ ∃ k,posBack l out n = k + 1 /\ beforeB l (out.getD k []) = false) /\ ∀ i,posBack l out n <= i -> i < n -> beforeB l (out.getD i []) = true
 | 0=>⟨.inl rfl,fun i _ h=>by omega⟩
 | n + 1=>by
   have ih:=X4j l out n;cases h:beforeB l (out.getD n []) with
   | true =>
     have e:posBack l out (n + 1) = posBack l out n:=by show (if beforeB l (out.getD n []) then _ else _) = _; rw [h]; rfl
     rw [e];refine ⟨ih.1,fun i h1 h2=>?_⟩
     by_cases hi:i = n
     . rw [hi]; exact h
     . exact ih.2 i h1 (by omega)
   | false =>
     have e:posBack l out (n + 1) = n + 1:=by show (if beforeB l (out.getD n []) then _ else _) = _; rw [h]; rfl
     rw [e];exact ⟨.inr ⟨n,rfl,h⟩,fun i h1 h2=>by omega⟩
theorem insert_sorted {l:List Int} {out:List (List Int)} (h:Sorted out):Sorted (insertBack l out):=by
 have hp:=Q8z l out out.length;obtain ⟨h1,h2⟩:=X4j l out out.length;unfold insertBack;obtain ⟨p,hpe⟩:∃ p,posBack l out out.length = p:=⟨_,rfl⟩;rw [hpe] at h1 h2 hp ⊢;unfold Sorted at *;have hsplit:(out.take p ++ out.drop p).Pairwise fun a b=>¬ Q1m b a < 0:=by rw [List.take_append_drop]; exact h
 rw [List.pairwise_append] at hsplit;obtain ⟨s1,s2,s3⟩:=hsplit;rw [List.append_assoc,List.pairwise_append];refine ⟨s1,?_,?_⟩
 . rw [List.singleton_append,List.pairwise_cons]
   refine ⟨fun b hb=>?_,s2⟩;obtain ⟨i,hi,rfl⟩:=List.getElem_of_mem hb;rw [List.length_drop] at hi;have:=h2 (p + i) (by omega) (by omega)
   rw [Q8y] at this;have e:out.getD (p + i) [] = (out.drop p)[i]'(by rw [List.length_drop]; omega):=by simp [show p + i < out.length by omega]
   rw [e] at this;exact X1v this
 . intro a ha b hb
   rw [List.singleton_append] at hb
   rcases List.mem_cons.1 hb with rfl | hb
   . rcases h1 with h1 | ⟨k,h1,hk⟩
     . subst h1; simp at ha
     . have hkl:k < out.length:=by omega
       have hk':¬ Q1m b (out.getD k []) < 0:=fun hh=>by rw [<- Q8y,hk] at hh; cases hh
       have e:out.getD k [] = out[k]:=by simp [hkl]
       rw [e] at hk';obtain ⟨i,hi,rfl⟩:=List.getElem_of_mem ha;rw [List.length_take] at hi;rw [List.getElem_take]
       by_cases hik:i = k
       . subst hik; exact hk'
       . have:=List.pairwise_iff_getElem.1 h i k (by omega) hkl (by omega)
         intro hh
         rcases Q5m out[i] out[k] with h5 | h5 | h5
         . exact hk' (Q2o hh h5)
         . rw [h5] at hh; exact hk' hh
         . exact this h5
   . exact s3 a ha b hb
theorem insert_perm (l:List Int) (out:List (List Int)):(insertBack l out).Perm (l :: out):=by
 unfold insertBack;have e:out.take (posBack l out out.length) ++ out.drop (posBack l out out.length) = out:=List.take_append_drop _ _;rw [List.append_assoc,List.singleton_append];refine List.perm_middle.trans ?_;rw [e]
theorem Q9f (t:Tree) (p:Bool) (n:Nat):Sorted (Q5z t p n):=by
 induction n with
 | zero=>exact List.Pairwise.nil
 | succ n ih =>
   rw [Q6u]
   split
   . exact insert_sorted ih
   . exact ih
theorem X3j (t:Tree) (p:Bool) (n:Nat):(Q5z t p n).Perm (((List.range n).filter fun s=>t.minimalB (bitsOf s) p).map bitsOf):=by
 induction n with
 | zero=>simp [Q5z]
 | succ n ih =>
   rw [Q6u,List.range_succ,List.filter_append,List.map_append];cases h:t.minimalB (bitsOf n) p with
   | true =>
     rw [if_pos rfl];refine (insert_perm _ _).trans ?_;simp only [List.filter_cons,h,if_true,List.filter_nil,List.map_cons,List.map_nil];exact ((ih.cons _)).trans (List.perm_append_singleton _ _).symm
   | false =>
     simp only [List.filter_cons,h,Bool.false_eq_true,if_false,List.filter_nil,List.map_nil,List.append_nil];exact ih
theorem X7e {a b:List (List Int)} (ha:Sorted a) (hb:Sorted b) (h:a.Perm b):a = b :=
 List.Perm.eq_of_pairwise (le:=fun a b=>¬ Q1m b a < 0) (fun x y _ _ h1 h2=>by
  rcases Q5m x y with h | h | h
  . exact absurd h h2
  . exact h
  . exact absurd h h1) ha hb h
theorem Q4i {α:Type} [BEq α] [LawfulBEq α]:∀ (l:List α) (k:Nat) (h:k < l.length),l.Nodup -> l.take k ++ l.drop (k + 1) = l.filter (· != l[k])
 | x :: l,0,_,hn=>by
   rw [List.nodup_cons] at hn;simp only [List.take_zero,List.nil_append,List.drop_succ_cons,List.drop_zero,List.getElem_cons_zero,List.filter_cons,bne_self_eq_false,Bool.false_eq_true,if_false]
   symm
   rw [List.filter_eq_self];intro a ha;rw [bne_iff_ne];intro e; exact hn.1 (e ▸ ha)
 | x :: l,k + 1,h,hn=>by
   have h':k < l.length:=by simpa using h
   rw [List.nodup_cons] at hn;have hne:(x != l[k]) = true:=by rw [bne_iff_ne]; intro e; exact hn.1 (e ▸ List.getElem_mem h')
   simp only [List.take_succ_cons,List.drop_succ_cons,List.getElem_cons_succ,List.filter_cons,hne,if_true,List.cons_append];rw [Q4i l k h' hn.2]
theorem Q9x {α:Type} (l:List α) (g:Nat -> Bool) (f:α -> Bool) (h:∀ k (hk:k < l.length),g k = f l[k]):(List.range l.length).any g = l.any f:=by
 rw [Bool.eq_iff_iff,List.any_eq_true,List.any_eq_true]
 constructor
 . rintro ⟨k,hk,hg⟩
   have hk:=List.mem_range.1 hk;exact ⟨l[k],List.getElem_mem hk,by rw [<- h k hk]; exact hg⟩
 . rintro ⟨x,hx,hf⟩
   obtain ⟨k,hk,rfl⟩:=List.getElem_of_mem hx;exact ⟨k,List.mem_range.2 hk,by rw [h k hk]; exact hf⟩
theorem X0j (s k:Nat) (h:k < ((List.range 16).filter (s.testBit ·)).length):without (bitsOf s) k = bitsOf (Q1g s (2 ^ ((List.range 16).filter (s.testBit ·))[k])):=by
 unfold without bitsOf;rw [<- List.map_take,<- List.map_drop,<- List.map_append,Q4i _ _ h (List.Pairwise.filter _ List.nodup_range),List.filter_filter]
 congr 1
 apply List.filter_congr
 intro j _;rw [Q1t,Nat.testBit_two_pow];obtain ⟨i,hi⟩:∃ i,((List.range 16).filter (s.testBit ·))[k] = i:=⟨_,rfl⟩;rw [hi]
 by_cases hij:j = i
 . subst hij; simp
 . have h2:¬ i = j:=fun e=>hij e.symm
   have h3:(j != i) = true:=by simpa using hij
   rw [h3,decide_eq_false h2,Bool.true_and,Bool.not_false,Bool.and_true]
theorem Y1h {t:Tree} {p:Bool} {q:Nat -> Bool} {n s:Nat} (hn:n <= 12) (hs:s < 2 ^ n) (hq:∀ s,s < 2 ^ n -> q s = t.setB (bitsOf s) p):X8o q n s = t.minimalB (bitsOf s) p:=by
 unfold X8o Tree.minimalB;rw [hq s hs]
 congr 1
 rw [List.all_eq_not_any_not]
 congr 1
 have hl:(bitsOf s).length = ((List.range 16).filter (s.testBit ·)).length:=by unfold bitsOf; rw [List.length_map]
 rw [hl,Q9x _ _ (fun i=>t.setB (bitsOf (Q1g s (2 ^ i))) p) (fun k hk=>by rw [X0j s k hk])]
 rw [Bool.eq_iff_iff,List.any_eq_true,List.any_eq_true]
 constructor
 . rintro ⟨i,hi,h⟩
   have hi:=List.mem_range.1 hi;simp only [Bool.not_not,Bool.and_eq_true] at h;refine ⟨i,List.mem_filter.2 ⟨List.mem_range.2 (by omega),h.1⟩,?_⟩
   rw [<- hq _ (Q3z _ hs)]; exact h.2
 . rintro ⟨i,hi,h⟩
   obtain ⟨_,h2⟩:=List.mem_filter.1 hi;have h2:s.testBit i = true:=h2;have hin:i < n:=by
    apply Nat.lt_of_not_le
    intro hge;rw [Nat.testBit_lt_two_pow (Nat.lt_of_lt_of_le hs (Nat.pow_le_pow_right (by omega) hge))] at h2
    cases h2
   refine ⟨i,List.mem_range.2 hin,?_⟩;rw [Bool.not_not,Bool.and_eq_true];exact ⟨h2,by rw [hq _ (Q3z _ hs)]; exact h⟩
theorem X6r {t:Tree} {p:Bool} {q:Nat -> Bool} (hs:t.size <= 12) (hq:∀ s,s < 2 ^ t.size -> q s = t.setB (bitsOf s) p) {ll:List (List Int)} (h:ll.Perm (minL q t.size (List.finRange (2 ^ t.size)))) (hso:Sorted ll):ll = t.sets p:=by
 have e:t.sets p = Q5z t p (2 ^ t.size):=rfl;rw [e];refine X7e hso (Q9f _ _ _) (h.trans ?_);refine List.Perm.trans ?_ (X3j t p _).symm;have e2:minL q t.size (List.finRange (2 ^ t.size)) = ((List.range (2 ^ t.size)).filter fun s=>t.minimalB (bitsOf s) p).map bitsOf:=by
  unfold minL;have e3:List.range (2 ^ t.size) = (List.finRange (2 ^ t.size)).map (·.1):=by
   apply List.ext_getElem <;> simp
  rw [e3,List.filter_map,List.map_map]
  congr 1
  apply List.filter_congr
  intro x _;exact Y1h hs x.2 hq
 rw [e2]
theorem Y1n {t:Tree} (hs:t.size <= 12) {s:Nat} (h:s < 2 ^ t.size):t.fails (evN s) = t.setB (bitsOf s) false:=by
 have h16:s < 65536:=Nat.lt_of_lt_of_le h (Nat.le_trans (Nat.pow_le_pow_right (n:=2) (by omega) hs) (by decide))
 unfold Tree.setB; rw [X9c h16]; rfl
end Go.Proofs
namespace Go.Proofs
open Go.RowKit Go.Tw Go.Flow
def Q0l (t:Tree) (l:List Int):Int:=if t.err = 0 then setErr l t.size else t.err
theorem X5c (t:Tree) (l:List Int):setErr l ((t.basics.length:Int) + (t.causes.length:Int)) = setErr l t.size:=by
 unfold Tree.size; rw [Int.natCast_add]
theorem X1d {t:Tree} {l:List Int} (h:Q0l t l = 0):Valid t /\ setErr l t.size = 0:=by
 unfold Q0l at h
 split at h
 . rename_i h0; exact ⟨Valid.of h0,h⟩
 . rename_i h0; exact absurd h h0
theorem X9n {l:List Int} (h:∀ x ∈ l,0 <= x):evN (Q1d l) = evL l:=by
 funext i; unfold evN evL; exact Q5h h i
def Q4j (t:Tree) (l:List Int):Bool:=if Q0l t l = 0 then t.fails (evL l) else false
theorem Q9q (w:World) (v u:Value) (t:Tree) (l:List Int) (ht:IsTree w v t) (hl:IsInts w u l) :
    Calls Tryd.prog 64 #[v,u] w fun e w'=>e = .returned (.int .i64 (Q0l t l)) /\ Ext w w':=by
 obtain ⟨a,b,c,rfl,h3⟩:=ht;obtain ⟨A,capa,rfl,hl1,hcap1,_⟩:=h3.basics.opened;obtain ⟨B,capb,rfl,hl2,hcap2,_⟩:=h3.causes.opened;obtain ⟨G,capg,rfl,hl3,hcap3,_⟩:=h3.gates.opened;have hxW:=Ext.box w (.cells #[.slice A t.basics.length capa,.slice B t.causes.length capb,.slice G t.gates.length capg] 71);have k0:=Blk.made w 71 #[.slice A t.basics.length capa,.slice B t.causes.length capb,.slice G t.gates.length capg];have HT:=Lib.hid (h3.ext hxW);have HL:=Lib.hid hl;have HX:=Lib.hid hxW;clear h3 hl hxW;go_enter Tryd.func64,Tryd.ntmps64;go_wp2_with fail;refine (Q2d _ _ t ⟨_,_,_,rfl,HT.out⟩).mono ?_;rintro e w1 ⟨rfl,hx1⟩;have k1:=k0.ext hx1;have c0:=k1.cell 0;have c1:=k1.cell 1;simp only [Go.Tw.gA,Go.Tw.gB,Go.Tw.gC] at c0 c1;have hxx:=HX.out.trans hx1;clear k0 k1
 by_cases he:t.err = 0
 . have hr:Q0l t l = setErr l t.size:=by unfold Q0l; rw [if_pos he]
   have HR:=Lib.hid hr;have hne:(t.err != 0) = false:=by simp [he]
   clear he hr;go_wp2_with fail;refine (Q2e _ _ l _ (HL.out.ext hxx)).mono ?_;rintro e w2 ⟨rfl,hx2⟩;go_wp2;go_ret;exact ⟨ret_int (by rw [HR.out,X5c]),hxx.trans hx2⟩
 . have hr:Q0l t l = t.err:=by unfold Q0l; rw [if_neg he]
   have HR:=Lib.hid hr;have hne:(t.err != 0) = true:=by simp [he]
   clear he hr;go_wp2;go_ret;exact ⟨ret_int HR.out.symm,hxx⟩
theorem X5e (w:World) (v u:Value) (t:Tree) (l:List Int) (ht:IsTree w v t) (hl:IsInts w u l) :
    Calls Tryd.prog 18 #[v,u] w fun e w'=>e = .returned (.tuple #[.bool (Q4j t l),.int .i64 (Q0l t l)]) /\ Ext w w':=by
 obtain ⟨a,b,c,rfl,h3⟩:=ht;obtain ⟨A,capa,rfl,hl1,hcap1,_⟩:=h3.basics.opened;obtain ⟨B,capb,rfl,hl2,hcap2,_⟩:=h3.causes.opened;obtain ⟨G,capg,rfl,hl3,hcap3,_⟩:=h3.gates.opened;have hxW:=Ext.box w (.cells #[.slice A t.basics.length capa,.slice B t.causes.length capb,.slice G t.gates.length capg] 71);have k0:=Blk.made w 71 #[.slice A t.basics.length capa,.slice B t.causes.length capb,.slice G t.gates.length capg];have HT:=Lib.hid (h3.ext hxW);have HL:=Lib.hid (hl.ext hxW);have HX:=Lib.hid hxW;clear h3 hl hxW;go_enter Tryd.func18,Tryd.ntmps18;go_wp2_with fail;refine (Q9q _ _ _ t l ⟨_,_,_,rfl,HT.out⟩ HL.out).mono ?_;rintro e w1 ⟨rfl,hx1⟩;have k1:=k0.ext hx1;have c0:=k1.cell 0;have c1:=k1.cell 1;have c2:=k1.cell 2;simp only [Go.Tw.gA,Go.Tw.gB,Go.Tw.gC] at c0 c1 c2;have HXX:=Lib.hid (HX.out.trans hx1);have HX1:=Lib.hid hx1;clear k0 k1 hx1
 by_cases he:Q0l t l = 0
 . have hz:=X1d he
   have hs:=Q3d hz.2;have HV:=Lib.hid hz.1;have HSZ:=Lib.hid hs.1;have HR:Hid (Q4j t l = t.fails (evN (Q1d l))):=by
    exact (by unfold Q4j; rw [if_pos he,X9n (fun x hx=>(hs.1 x hx).1)]:Q4j t l = t.fails (evN (Q1d l)))
   have hne:(Q0l t l != 0) = false:=by simp [he]
   have HE0:=Lib.hid he;have hsz:=hz.1.size;have hs1:0 < t.size:=by have:=hz.1.nb; unfold Tree.size; omega
   have HS1:=Lib.hid hs1;clear he hz hs hs1;go_wp2_with fail;refine (Q7y _ _ t HV.out ⟨_,_,_,rfl,HT.out.ext HX1.out⟩).mono ?_;rintro e w2 ⟨fv,gv,rfl,hn,hx2⟩;have HN:=Lib.hid hn;have HX2:=Lib.hid hx2;clear hn hx2;go_wp2_with fail;refine (Q9i _ _ l (HL.out.ext (HX1.out.trans HX2.out)) (fun x hx=>by have:=HSZ.out x hx; omega)).mono ?_
   rintro e w3 ⟨rfl,rfl⟩;go_wp2_with fail;refine (Q9k _ _ _ t _ _ HV.out (Q7w HS1.out (fun x hx=>(HSZ.out x hx).2)) HN.out).mono ?_;rintro e w4 ⟨rfl,hx4⟩;go_wp2;refine bodyPost_ret (v:=.tuple #[.bool (Q4j t l),.int .i64 (Q0l t l)]) (by rw [HR.out,HE0.out]; simp [results,Tryd.results18,go_sem]) rfl ?_
   exact ⟨rfl,(HXX.out.trans HX2.out).trans hx4⟩
 . have HR:Hid (Q4j t l = false):=Lib.hid (by unfold Q4j; rw [if_neg he])
   have hne:(Q0l t l != 0) = true:=by simp [he]
   clear he;go_wp2;refine bodyPost_ret (v:=.tuple #[.bool (Q4j t l),.int .i64 (Q0l t l)]) (by rw [HR.out]; simp [results,Tryd.results18,go_sem]) rfl ?_
   exact ⟨rfl,HXX.out⟩
end Go.Proofs
