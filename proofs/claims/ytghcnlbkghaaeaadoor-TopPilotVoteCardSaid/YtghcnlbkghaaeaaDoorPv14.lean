/- Contracts: Cuts and Paths. Contracts: probability, Chance. Loads of a part of a block. Contracts: the probability of the reference. Contracts: Chance. The region theorems with the frame under a name at every operation. Contracts: checkEvent, Importance. Contract: Critical. Contracts: Next. Contracts: mapped over sets, checkSets, the closures of CheckCuts. Contracts: Given. Blocks of structs: their cells by a function of the place; stores, copies and clears of parts of a block. Contracts: slices.Clone; copied. -/
import Derived.Test.YtghcnlbkghaaeaaDoorPv13
import Derived.Test.YtghcnlbkghaaeaaDoorPv05
import Derived.Test.YtghcnlbkghaaeaaDoorPv09
import Derived.Test.YtghcnlbkghaaeaaDoorPv06
import Derived.Test.YtghcnlbkghaaeaaDoorPv10
import Derived.Test.YtghcnlbkghaaeaaDoorPv03
import Derived.ChangeKeysEq
import Derived.Laws.MakeOwn
import Derived.Test.YtghcnlbkghaaeaaDoorPv11
set_option maxRecDepth 1000000
set_option maxHeartbeats 64000000
set_option linter.unusedVariables false
set_option linter.unusedSimpArgs false
set_option linter.constructorNameAsVariable false
namespace Go.Proofs
open Go.RowKit Go.Tw Go.Flow
def X2h (t:Tree) (p:Bool):List (List Int):=if t.err = 0 then t.sets p else []
theorem X7w (w:World) (v:Value) (t:Tree) (ht:IsTree w v t) (hT:Tab w) :
    Calls Tryd.prog 21 #[v] w fun e w'=>∃ x,e = .returned (.tuple #[x,.int .i64 t.err]) /\ IsIntss w' x (X2h t false) /\ Ext w w':=by
 obtain ⟨a,b,c,rfl,h3⟩:=ht;obtain ⟨A,capa,rfl,hl1,hcap1,_⟩:=h3.basics.opened;obtain ⟨B,capb,rfl,hl2,hcap2,_⟩:=h3.causes.opened;obtain ⟨G,capg,rfl,hl3,hcap3,_⟩:=h3.gates.opened;have hxW:=Ext.box w (.cells #[.slice A t.basics.length capa,.slice B t.causes.length capb,.slice G t.gates.length capg] 71);have k0:=Blk.made w 71 #[.slice A t.basics.length capa,.slice B t.causes.length capb,.slice G t.gates.length capg];have HT:=Lib.hid (h3.ext hxW);have HX:=Lib.hid hxW;clear h3 hxW;have HTAB:=Lib.hid hT;clear hT;go_enter Tryd.func21,Tryd.ntmps21;go_wp2_with fail;refine (Q2d _ _ t ⟨_,_,_,rfl,HT.out⟩).mono ?_;rintro e w1 ⟨rfl,hx1⟩;have k1:=k0.ext hx1;have c0:=k1.cell 0;have c1:=k1.cell 1;have c2:=k1.cell 2;simp only [Go.Tw.gA,Go.Tw.gB,Go.Tw.gC] at c0 c1 c2;have HXX:=Lib.hid (HX.out.trans hx1);have HX1:=Lib.hid hx1;clear k0 k1 hx1
 by_cases he:t.err = 0
 . have HR:Hid (X2h t false = t.sets false):=Lib.hid (by unfold X2h; rw [if_pos he])
   have hV:=Valid.of he;have HV:=Lib.hid hV;have HE0:=Lib.hid he;have hsz:=hV.size;have hne:(t.err != 0) = false:=by simp [he]
   clear he hV;go_wp2_with fail;refine (Q7y _ _ t HV.out ⟨_,_,_,rfl,HT.out.ext HX1.out⟩).mono ?_;rintro e w2 ⟨fv,gv,rfl,hn,hx2⟩;obtain ⟨A1,cap1,rfl,_,_,_⟩:=hn.fails.opened;obtain ⟨A2,cap2,rfl,_,_,_⟩:=hn.gates.opened;rw [Q1w] at hn ⊢;have HN:=Lib.hid hn;have HX2:=Lib.hid hx2;clear hn hx2 c0 c1 c2;go_wp2_with (first | (refine Q0q rfl _ 131 rfl Tryd.Q2n Tryd.Q1i rfl hb9 rfl ?_) | (refine Q0j rfl _ _ 131 rfl Tryd.Q1i rfl rfl (Blk.made _ _ _) rfl rfl ?_ ?_; (focus (intro u hu; simp [outA] at hu; rcases hu with rfl | rfl | rfl | rfl | rfl | rfl | rfl | rfl | rfl | rfl | rfl | rfl | rfl | rfl | rfl | rfl <;> rfl)); intro w9 hb9 hl9 ho9) | fail)
   have hx9:Ext w2 w9:=Below.trans (Ext.box w2 _) (hl9 _ (Nat.le_refl _));have HXX9:Hid (Ext w w9):=by exact (HXX.out.trans HX2.out).trans hx9
   have HN9:=Lib.hid (HN.out.ext hx9);clear hl9 ho9 hb9 hx9;refine (X1j _ _ _ t t.chances 66 (noV t t.chances (.slice A1 t.size cap1) (.slice A2 t.gates.length cap2)) (fun s=>t.fails (evN s)) HV.out HN9.out (HTAB.out.ext HXX9.out) (enters_of Tryd.func66 (by kernel_rfl) rfl) (fun W s hx hs=>Q9k W _ _ t t.chances s HV.out hs (HN9.out.ext hx))).mono ?_
   rintro e w3 ⟨x,ll,rfl,hii,hp,hso,hx3⟩;have hll:=X6r (p:=false) hsz (fun s hs=>Y1n hsz hs) hp hso;subst hll;have HII:=Lib.hid hii;clear hp hso hii;go_wp2;refine bodyPost_ret (v:=.tuple #[x,.int .i64 t.err]) (by rw [HE0.out]; simp [results,Tryd.results21,go_sem]) rfl ?_
   exact ⟨x,rfl,by rw [HR.out]; exact HII.out,HXX9.out.trans hx3⟩
 . have HR:Hid (X2h t false = []):=Lib.hid (by unfold X2h; rw [if_neg he])
   have hne:(t.err != 0) = true:=by simp [he]
   clear he;go_wp2;refine bodyPost_ret (v:=.tuple #[.slice none 0 0,.int .i64 t.err]) (by simp [results,Tryd.results21,go_sem]) rfl ?_
   exact ⟨_,rfl,by rw [HR.out]; exact Rows.nil _ _ _,HXX.out⟩
end Go.Proofs
namespace Go.Proofs
open Go.RowKit Go.Tw Go.Flow
theorem Q3q {P:Program} {K:Value -> World -> Prop} {o:Oper} {a:Act} {w:World} (p x:Operand) (T:TypeId) (ho:o.op = .store T p x)
    {n:Nat} (hS:∀ w,(sizeOf T).run P w = .ok n w) {g:Nat} (hp:a.eval p = .pointer (some ⟨g,0,none⟩)) {BT:TypeId} {cs vs:Array Value} (hx:a.eval x = .agg vs) (hb:Blk w g BT cs) (hn:cs.size = n) (hv:vs.size = n) (h1:∀ u ∈ vs.toList,u.oneCell' = true)
    (h:∀ v w',Blk w' g BT vs -> (∀ n,n <= g -> Below n w w') -> (∀ k,k ≠ g -> w'.heap[k]? = w.heap[k]?) -> K v w'):gives P K ((execOp a.eval o).run P w):=by
 obtain ⟨w',hr,hb',hl,hoo⟩:=Q3t (P:=P) vs.toList 0 w cs hb h1 (by simp [hn,hv])
 have hs:(storeVar T ⟨g,0,none⟩ (.agg vs)).run P w = .ok () w':=by
  have hc:(Value.agg vs).cells = vs:=rfl;unfold storeVar;simp only [Sem.run_bind,hS,Result.andThen_ok];rw [if_neg (by rw [hc]; simp [hv])]
  exact hr
 have hr2:(execOp a.eval o).run P w = .ok .skip w':=by
  unfold execOp;simp only [ho,hp,hx,Instr.storeAt,Instr.sureAddr,Sem.run_bind,Sem.run_pure,Result.andThen_ok,hs]
 rw [hr2];exact h _ _ (by simpa using hb') hl hoo
def Y0c (a b:Int):Array Value:=#[.int .i64 (lowest a b).num,.int .i64 (lowest a b).den]
theorem X4n (a b:Int):∀ u ∈ (Y0c a b).toList,u.oneCell' = true:=by
 intro u hu;simp only [Y0c,List.mem_cons,List.not_mem_nil,or_false] at hu
 rcases hu with rfl | rfl <;> rfl
theorem Tryd.X3v (w:World):(isAgg 74).run Tryd.prog w = .ok true w:=by kernel_rfl
theorem Tryd.Q4n (w:World):(sizeOf 74).run Tryd.prog w = .ok 2 w:=by kernel_rfl
theorem X5w {c:List Int} (h:Small c) (t:Tree) (wi:Nat) (hs:t.size <= 12):0 <= Q2j t c wi /\ Q2j t c wi <= 1152921504606846976:=by
 have h1:=X1q h t wi (List.finRange (2 ^ t.size));have h2:(2:Nat) ^ t.size <= 2 ^ 12:=Nat.pow_le_pow_right (by omega) hs
 rw [List.length_finRange] at h1;unfold Q2j;refine ⟨h1.1,Int.le_trans h1.2 ?_⟩;generalize (2:Nat) ^ t.size = m at h2;omega
theorem Y0s {n:Nat} (h:n <= 12):1 <= Q4h 16 n /\ Q4h 16 n <= 281474976710656:=by
 unfold Q4h;refine ⟨Nat.one_le_pow _ _ (by omega),Nat.le_trans (Nat.pow_le_pow_right (by omega) h) (by decide)⟩
theorem Q7x (w:World) (fv gv:Value) (t:Tree) (c0 c:List Int) (hv:Valid t) (hn:X6f w fv gv t) (hc:Small c) (hlen:c.length = t.size) :
    Calls Tryd.prog 69 #[noV t c0 fv gv,chV c] w fun e w'=>e = .returned (.agg (Y0c (Q2j t c 0) (Q4h 16 t.size))) /\ Ext w w':=by
 obtain ⟨A1,cap1,rfl,_,_,_⟩:=hn.fails.opened;obtain ⟨A2,cap2,rfl,_,_,_⟩:=hn.gates.opened;rw [Q1w] at hn ⊢;have HN:=Lib.hid hn;have HV:=Lib.hid hv;have HC:=Lib.hid hc;have HLEN:=Lib.hid hlen;have hsz:=hv.size;have hwb:=X5w hc t 0 hsz;have hpb:=Y0s hsz;obtain ⟨m,hm⟩:∃ m,Q2j t c 0 = m:=⟨_,rfl⟩;obtain ⟨d,hd⟩:∃ d,Q4h 16 t.size = d:=⟨_,rfl⟩;rw [hm] at hwb ⊢;rw [hd] at hpb ⊢;have HW:Hid (∀ w',Ext w w' -> Calls Tryd.prog 104 #[noV t c0 (.slice A1 t.size cap1) (.slice A2 t.gates.length cap2),chV c,.int .i64 0] w' fun e w''=>e = .returned (.int .i64 m) /\ Ext w' w''):=by
  exact (by intro w' hx; rw [<- hm]; exact X2u w' _ _ t c0 c 0 HV.out (HN.out.ext hx) HC.out HLEN.out (by omega):∀ w',Ext w w' -> Calls Tryd.prog 104 #[noV t c0 (.slice A1 t.size cap1) (.slice A2 t.gates.length cap2),chV c,.int .i64 0] w' fun e w''=>e = .returned (.int .i64 m) /\ Ext w' w'')
 have HP:Hid (∀ w',Calls Tryd.prog 105 #[noV t c0 (.slice A1 t.size cap1) (.slice A2 t.gates.length cap2)] w' fun e w''=>e = .returned (.int .i64 d) /\ Ext w' w''):=by
  exact (by intro w'; rw [<- hd]; exact X7o w' t c0 A1 A2 _ _ _ _ hsz:∀ w',Calls Tryd.prog 105 #[noV t c0 (.slice A1 t.size cap1) (.slice A2 t.gates.length cap2)] w' fun e w''=>e = .returned (.int .i64 d) /\ Ext w' w'')
 clear hn hv hc hlen hm hd;rw [X7z];unfold noV;go_enter Tryd.func69,Tryd.ntmps69;go_wp2;change Code.wp _ _ _ _ (((w.alloc (.cells (outA t.size (.slice A1 t.size cap1) c0 t.basics.length (.slice A2 t.gates.length cap2)) 131)).alloc (.cells (chA c) 126)).alloc (.cells #[.int .i64 0,.int .i64 0] 74));obtain ⟨W,hWW,k0,k1,k2,HXW,eW⟩:=Y0j w 131 (outA t.size (.slice A1 t.size cap1) c0 t.basics.length (.slice A2 t.gates.length cap2)) 126 (chA c) 74 #[.int .i64 0,.int .i64 0];rw [hWW];clear hWW;have hdr:=(Ext.refl W).drew;refine Flow.region [.w,.w,.w,.w,.w,.w,.last] [0,1,2,3,4,5,6] [[],[],[0,1],[],[0,1,2,3],[0,1,2,3,4],[0,1,2,3,4,5]] [6]
  [.c 0 (noV t c0 (.slice A1 t.size cap1) (.slice A2 t.gates.length cap2)),.c 1 (chV c),.c 2 (.int .i64 m),.c 3 (noV t c0 (.slice A1 t.size cap1) (.slice A2 t.gates.length cap2)),.c 4 (.int .i64 d),.c 5 (.agg (Y0c m d)),.none]
  [fun v w1 w'=>Blk w' (w.heap.size + 1 + 1) 74 (Y0c m d) /\ Below w.heap.size w1 w'] (by kernel_rfl) rfl (by kernel_rfl) ⟨?g0,?g1,?g2,?g3,?g4,?g5,?g6,trivial⟩ ?post
 case g0 | g3=>
  intro v w1 hx;intro K hK;exact Q1c _ _ rfl Tryd.Q2n Tryd.Q1i (by go_simp) (k0.ext (hdr.trans hx)) rfl (hK _ _ (Ext.refl _) rfl)
 case g1=>
  intro v w1 hx;intro K hK;exact Q1c _ _ rfl Tryd.Y1e Tryd.X6h (by go_simp) (k1.ext (hdr.trans hx)) rfl (hK _ _ (Ext.refl _) rfl)
 case g2=>
  intro v w1 hx;(repeat intro (zq:v _ = _));intro K hK;go_simp;refine Q0b (HW.out _ (HXW.out.trans (hdr.trans hx))) ?_;rintro e w2 ⟨rfl,hx2⟩;exact ⟨_,rfl,hK _ _ hx2 rfl⟩
 case g4=>
  intro v w1 hx;(repeat intro (zq:v _ = _));intro K hK;go_simp;refine Q0b (HP.out _) ?_;rintro e w2 ⟨rfl,hx2⟩;exact ⟨_,rfl,hK _ _ hx2 rfl⟩
 case g5=>
  intro v w1 hx;(repeat intro (zq:v _ = _));intro K hK;go_simp;refine Q0b (X7d _ m d hwb.1 (by omega) (by omega) (by omega)) ?_
  rintro e w2 ⟨rfl,hx2⟩;exact ⟨_,rfl,hK _ _ hx2 rfl⟩
 case g6=>
  intro v w1 hx;(repeat intro (zq:v _ = _));intro wl hT;obtain rfl:wl = w1:=hT;intro bb hbb;intro K hK;have o1:bb.eval (.tmp 4) = .pointer (some ⟨w.heap.size + 1 + 1,0,none⟩):=by rw [hbb]; dsimp only; (try simp (discharger:=decide) only [eval_put_ne]); rfl
  have o2:bb.eval (.tmp 10) = .agg (Y0c m d):=by rw [hbb]; dsimp only; (try simp (discharger:=decide) only [eval_put_ne]); rw [Q0a (by simp only [size_put]; exact (by decide:10 < 11))]; assumption
  exact Q3q (.tmp 4) (.tmp 10) _ rfl Tryd.Q4n o1 o2 (k2.ext (hdr.trans hx)) rfl rfl (X4n _ _) (fun vv w' hb hl ho=>hK _ _ ⟨hb,hl _ (by omega)⟩)
 case post =>
  intro v w1 hx;(iterate 6 intro (zq:v _ = _));intro w2 hE;replace hE:(fun v w1 w'=>Blk w' (w.heap.size + 1 + 1) 74 (Y0c m d) /\ Below w.heap.size w1 w') v w1 w2:=hE;simp only [Flow.acts,Act.put];go_simp;obtain ⟨hb9,hl9⟩:=hE;go_wp2;refine bodyPost_ret (Q3i Tryd.results69 rfl hb9 Tryd.X3v Tryd.Q4n) rfl ?_;exact ⟨rfl,Below.trans (HXW.out.trans (hdr.trans hx)) hl9⟩
end Go.Proofs
namespace Go.Proofs
open Go.RowKit Go.Tw Go.Flow
def Part (w:World) (g off:Nat) (sub:Array Value):Prop:=∀ k (hk:k < sub.size),w.cell? ⟨g,off + k,none⟩ = some sub[k]
theorem Part.ext {w w':World} {g off:Nat} {sub:Array Value} (h:Part w g off sub) (hx:Ext w w'):Part w' g off sub:=fun k hk=>hx.cell (h k hk)
theorem X0z {P:Program} {w:World} {g off:Nat} {cs:Array Value} (h:Part w g off cs):(loadCells ⟨g,off,none⟩ cs.size).run P w = .ok cs w:=by
 have gen:∀ (n i:Nat) (acc:Array Value),i + n = cs.size -> acc.toList = cs.toList.take i -> (loadCellsFrom ⟨g,off,none⟩ i n acc).run P w = .ok cs w:=by
  intro n
  induction n with
  | zero =>
    intro i acc hi ha;have:acc = cs:=by
     apply Array.toList_inj.1
     rw [ha,List.take_of_length_le (by simp; omega)]
    subst this;simp [loadCellsFrom]
  | succ n ih =>
    intro i acc hi ha;have hlt:i < cs.size:=by omega
    have h0:=h i hlt;have ea:(⟨g,off,none⟩:Addr).add i = ⟨g,off + i,none⟩:=by rw [addr_add]
    rw [loadCellsFrom,ea];simp only [Sem.run_bind,load,Sem.run,h0,Result.andThen_ok];refine ih (i + 1) _ (by omega) ?_
    rw [Array.toList_push,ha,<- Array.getElem_toList (by simpa using hlt),List.take_append_getElem]
 exact gen cs.size 0 #[] (by omega) (by simp)
theorem Q6j {P:Program} {w:World} {g off:Nat} {T:TypeId} {cs:Array Value} (h:Part w g off cs) (hA:∀ w,(isAgg T).run P w = .ok true w) (hS:∀ w,(sizeOf T).run P w = .ok cs.size w):(loadVar T ⟨g,off,none⟩).run P w = .ok (.agg cs) w:=by
 unfold loadVar;simp only [Sem.run_bind,hA,Result.andThen_ok,if_true,hS,X0z h,Sem.run_pure]
theorem Q7i {P:Program} {w:World} {o:Oper} {a:Act} {p:Operand} {T:TypeId} {g off:Nat} {cs:Array Value} (hop:o.op = .load T p) (hA:∀ w,(isAgg T).run P w = .ok true w) (hS:∀ w,(sizeOf T).run P w = .ok cs.size w) (hp:a.eval p = .pointer (some ⟨g,off,none⟩)) (h:Part w g off cs):(execOp a.eval o).run P w = .ok (.value (.agg cs)) w:=by
 unfold execOp;simp only [hop,hp,Instr.loadAt,Instr.sureAddr,Sem.run_bind,Sem.run_pure,Result.andThen_ok,Q6j h hA hS]
theorem Q6h {P:Program} {w:World} {ops:Array Oper} {rest:List Oper} {o:Oper} {a:Act} {Q:Exit -> Act -> World -> Prop} (hg:o.guard = none) (p:Operand) (T:TypeId) (hop:o.op = .load T p)
    (hA:∀ w,(isAgg T).run P w = .ok true w) {n:Nat} (hS:∀ w,(sizeOf T).run P w = .ok n w) {g off:Nat} (hp:a.eval p = .pointer (some ⟨g,off,none⟩)) {cs:Array Value} (hb:Part w g off cs) (hn:cs.size = n)
    (hK:wpList P ops Q rest (a.put o.dst (.agg cs)) w):wpList P ops Q (o :: rest) a w:=by
 subst hn;refine wpList_plain hg fun K' hK'=>?_;unfold Oper.wp;rw [Q7i hop hA hS hp hb];exact hK' _ _ hK
theorem X1m {w:World} {g:Nat} {T:TypeId} {sz:Int} {fv:Value} {c:List Int} {nb:Int} {gv:Value} (h:Blk w g T (outA sz fv c nb gv)):Part w g 2 (chA c):=by
 intro k hk;have hk12:k < 12:=hk;have h1:=Y0n c hk12;rw [Array.getElem?_eq_getElem hk] at h1;rw [h.cell (2 + k),X2v sz fv c nb gv hk12,h1]
end Go.Proofs
namespace Go.Proofs
open Go.RowKit Go.Tw Go.Flow
theorem _root_.Go.Tw.Valid.small {t:Tree} (h:Valid t):Small t.chances:=by
 refine ⟨by simpa [Tree.chances] using h.size,fun x hx=>?_⟩
 obtain ⟨i,hi,rfl⟩:=List.mem_map.1 hx;exact h.chance (List.mem_range.1 hi)
theorem _root_.Go.Tw.Valid.nodes {t:Tree} (h:Valid t):1 <= t.nodes:=by
 have:=h.nb;unfold Tree.nodes; omega
end Go.Proofs
namespace Go.Proofs
open Go.RowKit Go.Tw Go.Flow
def encR (r:Ratio):Array Value:=#[.int .i64 r.num,.int .i64 r.den]
theorem X8v (r:Ratio):∀ u ∈ (encR r).toList,u.oneCell' = true:=by
 intro u hu;simp only [encR,List.mem_cons,List.not_mem_nil,or_false] at hu
 rcases hu with rfl | rfl <;> rfl
theorem Q1q {P:Program} {fn:Func} {p q:Tmp} {T:TypeId} (h:fn.results = #[.cell p T,.tmp q]) {tmps:Array Value} {w:World} {g:Nat} (ht:tmps.getD p undef = .pointer (some ⟨g,0,none⟩)) {BT:TypeId} {cs:Array Value} (hb:Blk w g BT cs)
    (hA:∀ w,(isAgg T).run P w = .ok true w) (hS:∀ w,(sizeOf T).run P w = .ok cs.size w) {v:Value} (hq:tmps.getD q undef = v):(results fn tmps).run P w = .ok (.tuple #[.agg cs,v]) w:=by
 unfold results;rw [h];simp only [List.mapM_toArray,List.mapM_cons,List.mapM_nil,Sem.run_bind,Sem.run_pure,ht,hq,asAddr];simp [Q1j hb hA hS]
def Q4s (t:Tree):Ratio:=if t.err = 0 then lowest (Q2j t t.chances 0) (Q4h 16 t.size) else ⟨0,0⟩
theorem X3f (w:World) (v:Value) (t:Tree) (ht:IsTree w v t) :
    Calls Tryd.prog 20 #[v] w fun e w'=>e = .returned (.tuple #[.agg (encR (Q4s t)),.int .i64 t.err]) /\ Ext w w':=by
 obtain ⟨a,b,c,rfl,h3⟩:=ht;obtain ⟨A,capa,rfl,hl1,hcap1,_⟩:=h3.basics.opened;obtain ⟨B,capb,rfl,hl2,hcap2,_⟩:=h3.causes.opened;obtain ⟨G,capg,rfl,hl3,hcap3,_⟩:=h3.gates.opened;have HT0:=Lib.hid h3;clear h3;go_enter Tryd.func20,Tryd.ntmps20;go_wp2_with fail;change Calls _ _ _ ((w.alloc (.cells #[.slice A t.basics.length capa,.slice B t.causes.length capb,.slice G t.gates.length capg] 71)).alloc (.cells #[.int .i64 0,.int .i64 0] 74)) _;obtain ⟨W,hWW,k0,k1,HXW,eW⟩:=X4g w 71 #[.slice A t.basics.length capa,.slice B t.causes.length capb,.slice G t.gates.length capg] 74 #[.int .i64 0,.int .i64 0];rw [hWW];clear hWW;have HT:=Lib.hid (HT0.out.ext HXW.out);refine (Q2d _ _ t ⟨_,_,_,rfl,HT.out⟩).mono ?_;rintro e w1 ⟨rfl,hx1⟩;have kt:=k0.ext hx1;have c0:=kt.cell 0;have c1:=kt.cell 1;have c2:=kt.cell 2;simp only [Go.Tw.gA,Go.Tw.gB,Go.Tw.gC] at c0 c1 c2;have HXX:=Lib.hid (HXW.out.trans hx1);have HX1:=Lib.hid hx1;clear kt hx1;have hbr:=k1.ext HX1.out;clear k0 k1
 by_cases he:t.err = 0
 . have HR:Hid (Q4s t = lowest (Q2j t t.chances 0) (Q4h 16 t.size)):=Lib.hid (by unfold Q4s; rw [if_pos he])
   have hV:=Valid.of he;have HV:=Lib.hid hV;have HE0:=Lib.hid he;have hsz:=hV.size;have hne:(t.err != 0) = false:=by simp [he]
   clear he hV;go_wp2_with fail;refine (Q7y _ _ t HV.out ⟨_,_,_,rfl,HT.out.ext HX1.out⟩).mono ?_;rintro e w2 ⟨fv,gv,rfl,hn,hx2⟩;obtain ⟨A1,cap1,rfl,_,_,_⟩:=hn.fails.opened;obtain ⟨A2,cap2,rfl,_,_,_⟩:=hn.gates.opened;rw [Q1w] at hn ⊢;have HN:=Lib.hid hn;have HX2:=Lib.hid hx2;clear hn hx2 c0 c1 c2;replace hbr:=hbr.ext HX2.out;have hbl:=hbr.lt;go_wp2_with (first | (refine Q0q rfl _ 131 rfl Tryd.Q2n Tryd.Q1i rfl hb9 rfl ?_) | (refine Q6h rfl _ 126 rfl Tryd.Y1e Tryd.X6h rfl (X1m hb9) rfl ?_) | (refine Q0j rfl _ _ 131 rfl Tryd.Q1i rfl rfl (Blk.made _ _ _) rfl rfl ?_ ?_; (focus (intro u hu; simp [outA] at hu; rcases hu with rfl | rfl | rfl | rfl | rfl | rfl | rfl | rfl | rfl | rfl | rfl | rfl | rfl | rfl | rfl | rfl <;> rfl)); intro w9 hb9 hl9 ho9) | fail)
   have hx9:Ext w2 w9:=Below.trans (Ext.box w2 _) (hl9 _ (Nat.le_refl _));have HXX9:Hid (Ext w w9):=by exact (HXX.out.trans HX2.out).trans hx9
   have HN9:=Lib.hid (HN.out.ext hx9);replace hbr:=hbr.ext hx9;clear hl9 ho9 hb9 hx9;refine (Q7x _ _ _ t t.chances t.chances HV.out HN9.out HV.out.small (by unfold Tree.chances; simp)).mono ?_
   rintro e w3 ⟨rfl,hx3⟩;replace hbr:=hbr.ext hx3;go_wp2_with (refine Q0j rfl _ _ _ rfl Tryd.Q4n rfl rfl hbr rfl rfl ?_ ?_; (focus (exact X4n _ _)); intro w8 hb8 hl8 ho8);refine bodyPost_ret (Q1q Tryd.results20 rfl hb8 Tryd.X3v Tryd.Q4n rfl) rfl ?_;exact ⟨by rw [HR.out,HE0.out]; rfl,Below.trans (HXX9.out.trans hx3) (hl8 _ (by omega))⟩
 . have HR:Hid (Q4s t = ⟨0,0⟩):=Lib.hid (by unfold Q4s; rw [if_neg he])
   have hne:(t.err != 0) = true:=by simp [he]
   clear he;go_wp2_with (refine Q0j rfl _ _ _ rfl Tryd.Q4n rfl rfl hbr rfl rfl ?_ ?_; (focus (exact X8v ⟨0,0⟩)); intro w8 hb8 hl8 ho8);refine bodyPost_ret (Q1q Tryd.results20 rfl hb8 Tryd.X3v Tryd.Q4n rfl) rfl ?_;exact ⟨by rw [HR.out]; rfl,Below.trans HXX.out (hl8 _ (by omega))⟩
end Go.Proofs
namespace Go.Flow
open Go.RowKit Go.Tw
def X7h (P:Program) (ops:Array Oper) (pre:Nat -> List Nat) (tail:List Nat) (w0:World) (D:Nat -> (Nat -> Value) -> World -> Prop):List ((Nat -> Value) -> World -> World -> Prop) -> ((Nat -> Value) -> World -> World -> Prop) -> List Oper -> List Kind -> List Nat -> ((Nat -> Value) -> Act) -> Prop
 | El,T,o :: l,k :: kl,j :: jl,b =>
   match k,El with
   | .last,E :: El=>(∀ v w1,Ext w0 w1 -> Facts pre D v w1 ((pre j).filter fun i=>!tail.contains i) (∀ w,T v w1 w -> ∀ bb,bb = b v -> Guarded ops o bb (Due P pre D E .last o j bb v w1 w) (Pass pre D E .last j v w1 w))) /\
      X7h P ops pre tail w0 D El (fun v w1 w=>E (mask pre j v) w1 w) l kl jl (fun v=>(b v).put o.dst (v j))
   | .last,[]=>False
   | k,El=>(∀ v w1,Ext w0 w1 -> Facts pre D v w1 (pre j) (∀ bb,bb = b v -> Guarded ops o bb (Due P pre D (fun _ _ _=>False) k o j bb v w1 w1) (Pass pre D (fun _ _ _=>False) k j v w1 w1))) /\ X7h P ops pre tail w0 D El T l kl jl (fun v=>(b v).put o.dst (v j))
 | _,_,_,_,_,_=>True
theorem Q5n {pre:Nat -> List Nat} {D:Nat -> (Nat -> Value) -> World -> Prop} {v:Nat -> Value} {w:World} {G G':Prop} (h:G -> G'):∀ {l:List Nat},Facts pre D v w l G -> Facts pre D v w l G'
 | [],hg=>h hg
 | _ :: _,hg=>fun hd=>Q5n h (hg hd)
theorem Q7o {P:Program} {ops:Array Oper} {pre:Nat -> List Nat} {tail:List Nat} {w0:World} {D:Nat -> (Nat -> Value) -> World -> Prop}:∀ (l:List Oper) (kl:List Kind) (jl:List Nat) (El:List ((Nat -> Value) -> World -> World -> Prop)) (T:(Nat -> Value) -> World -> World -> Prop) (b:(Nat -> Value) -> Act),
    X7h P ops pre tail w0 D El T l kl jl b -> Q6n P ops pre tail w0 D El T l kl jl b
 | [],_,_,_,_,_,_=>by simp [Q6n]
 | _ :: _,[],_,_,_,_,_=>by simp [Q6n]
 | _ :: _,_ :: _,[],_,_,_,_=>by simp [Q6n]
 | o :: l,.last :: kl,j :: jl,E :: El,T,b,h=>⟨h.1,Q7o l kl jl El _ _ h.2⟩
 | o :: l,.last :: kl,j :: jl,[],T,b,h=>h
 | o :: l,.plain :: kl,j :: jl,El,T,b,h=>⟨fun v w1 hx=>Q5n (fun hg=>hg _ rfl) (h.1 v w1 hx),Q7o l kl jl El _ _ h.2⟩
 | o :: l,.world :: kl,j :: jl,El,T,b,h=>⟨fun v w1 hx=>Q5n (fun hg=>hg _ rfl) (h.1 v w1 hx),Q7o l kl jl El _ _ h.2⟩
section
variable {P:Program} {ops:List Oper} {id:Nat} {Q:Exit -> Act -> World -> Prop} {a0:Act} {w:World}
theorem Q6x (kl:List Kind) (jl:List Nat) (pl:List (List Nat)) (tail:List Nat) (Dl:List Spec) (El:List ((Nat -> Value) -> World -> World -> Prop))
    (hm:P.follows .mixedOrders = true) (hjl:jl = List.range' 0 ops.length) (hok:okL ops pl kl tail El.length = true)
    (hvc:X7h P ops.toArray (lookup pl []) tail w.drew (fun k=>(lookup Dl .none k).D) El (fun _ w1 w=>w = w1) ops kl jl (fun _=>a0))
    (hpost:∀ v w1,Ext w.drew w1 -> All (lookup pl []) (fun k=>(lookup Dl .none k).D) v w1 tail jl (∀ w',endOf (lookup pl []) v w1 w' tail El -> Q .normal (acts v ops jl a0) w')) :
    (Code.region id ops.toArray true).wp P Q a0 w:=region kl jl pl tail Dl El hm hjl hok (Q7o _ _ _ _ _ _ hvc) hpost
theorem X3r (kl:List Kind) (jl:List Nat) (pl:List (List Nat)) (Dl:List Spec)
    (hm:P.follows .mixedOrders = true) (hjl:jl = List.range' 0 ops.length) (hok:okL ops pl kl [] 0 = true)
    (hvc:X7h P ops.toArray (lookup pl []) [] w.drew (fun k=>(lookup Dl .none k).D) [] (fun _ w1 w=>w = w1) ops kl jl (fun _=>a0))
    (hpost:∀ v w1,Ext w.drew w1 -> All (lookup pl []) (fun k=>(lookup Dl .none k).D) v w1 [] jl (Q .normal (acts v ops jl a0) w1)) :
    (Code.region id ops.toArray true).wp P Q a0 w:=Q3y kl jl pl Dl hm hjl hok (Q7o _ _ _ _ _ _ hvc) hpost
end
end Go.Flow
namespace Go.Proofs
open Go.RowKit Go.Tw Go.Flow
theorem Small.put {c l:List Int} (h:Small c) {n:Int} (h0:0 <= n) (h1:n <= 16):Small (withEv c l n):=by
 refine ⟨by simpa [Go.Tw.withEv] using h.len,fun x hx=>?_⟩
 obtain ⟨i,hi,rfl⟩:=List.mem_map.1 hx
 split
 . exact ⟨h0,h1⟩
 . exact h.ix (List.mem_range.1 hi)
end Go.Proofs
namespace Go.Proofs
open Go.RowKit Go.Tw Go.Flow
attribute [local go_sem] Oper.semAt_some
def Q2v (p:Prop):Prop:=p
theorem halted {p:Prop} (h:Q2v p):p:=h
end Go.Proofs
namespace Go.Proofs
open Go.RowKit Go.Tw Go.Flow
def Y2q (r s:Ratio):Bool:=r.num == s.num && r.den == s.den
theorem Q7a (w:World) (r s:Ratio):(binOp .eql 74 (.agg (encR r)) (.agg (encR s))).run Tryd.prog w = .ok (.bool (Y2q r s)) w:=by
 have u3:=Tryd.underlying3;have a3:∀ w,(isAgg 3).run Tryd.prog w = .ok false w:=fun w=>by kernel_rfl
 have z3:∀ w,(sizeOf 3).run Tryd.prog w = .ok 1 w:=fun w=>by kernel_rfl
 have hS:Tryd.prog.underlying 74 = some (.struct (Tryd.prog.fieldsOf 74)):=by kernel_rfl
 have hp:Tryd.prog.stoodInHeld 74 = false:=by kernel_rfl
 simp only [encR];rw [run_eql_struct,show (10000:Nat) = 9999 + 1 from rfl,run_equalIn_agg w 9999 74 _ _ hS hp]
 simp only [Program.fieldsOf,Tryd.underlying74];unfold Y2q;go_simp
 by_cases h1:r.num = s.num <;> by_cases h2:r.den = s.den <;> simp [h1,h2]
theorem X1o (w:World) (a b c d:Int):(binOp .eql 74 (.agg (Y0c a b)) (.agg (Y0c c d))).run Tryd.prog w = .ok (.bool (Y2q (lowest a b) (lowest c d))) w:=Q7a w _ _
attribute [local go_sem ↓] X1o
end Go.Proofs
namespace Go.Proofs
open Go.RowKit Go.Tw Go.Flow
theorem Tryd.X7j:(Tryd.prog.info? 45).map (fun i=>(i.zero,i.size,i.bytes)) = some (some (.int .i64 0),1,8):=by kernel_rfl
end Go.Proofs
namespace Go.Proofs
open Go.RowKit Go.Tw Go.Flow
theorem Tryd.Q3h (w:World):(isAgg 71).run Tryd.prog w = .ok true w:=by kernel_rfl
theorem Tryd.Q0z (w:World):(sizeOf 71).run Tryd.prog w = .ok 3 w:=by kernel_rfl
end Go.Proofs
namespace Go.Tw
open Go.RowKit Go.Flow
def Q0h {α:Type} (enc:α -> List Value) (n:Nat) (f:Nat -> α):Array Value:=((List.range n).flatMap fun i=>enc (f i)).toArray
section
variable {α:Type} {enc:α -> List Value} {k:Nat}
theorem Q5e (enc:α -> List Value) (n:Nat) (f:Nat -> α):Q0h enc n f = (((List.range n).map f).flatMap enc).toArray:=by unfold Q0h; rw [List.flatMap_map]
theorem Q0i (hk:∀ x,(enc x).length = k) (n:Nat) (f:Nat -> α):(Q0h enc n f).size = n * k:=by
 rw [Q5e,List.size_toArray,Q9w hk]; simp
theorem Q0x (hk:∀ x,(enc x).length = k) {n:Nat} (f:Nat -> α) {i j:Nat} (hi:i < n) (hj:j < k):(Q0h enc n f)[i * k + j]? = (enc (f i))[j]?:=by
 rw [Q5e,List.getElem?_toArray,flat_get hk _ i j (by simpa using hi) hj]; simp
theorem Q1h {n:Nat} {f g:Nat -> α} (h:∀ i,i < n -> f i = g i):Q0h enc n f = Q0h enc n g:=by
 rw [Q5e,Q5e]
 congr 2
 exact List.map_congr_left fun i hi=>h i (List.mem_range.1 hi)
def Q0v (cs:Array Value) (o:Nat):List Value -> Array Value
 | []=>cs
 | v :: vs=>Q0v (cs.setIfInBounds o v) (o + 1) vs
theorem Q3n:∀ (vs:List Value) (o:Nat) (cs:Array Value) (j:Nat),o + vs.length <= cs.size -> (Q0v cs o vs)[j]? = if o <= j /\ j < o + vs.length then vs[j - o]? else cs[j]?
 | [],o,cs,j,_=>by rw [Q0v,if_neg (by simp only [List.length_nil]; omega)]
 | v :: vs,o,cs,j,h=>by
   rw [List.length_cons] at h;rw [Q0v,Q3n vs (o + 1) _ j (by simp; omega)]
   by_cases h1:o + 1 <= j /\ j < o + 1 + vs.length
   . rw [if_pos h1,if_pos (by rw [List.length_cons]; omega),show j - o = (j - (o + 1)) + 1 from by omega]; rfl
   . rw [if_neg h1]
     by_cases h2:j = o
     . subst h2
       rw [if_pos (by rw [List.length_cons]; omega),Nat.sub_self]
       rw [Array.getElem?_setIfInBounds];rw [if_pos rfl,if_pos (by omega)]; rfl
     . rw [if_neg (by rw [List.length_cons]; omega),Array.getElem?_setIfInBounds,if_neg (fun e=>h2 e.symm)]
theorem X0m (hk:∀ x,(enc x).length = k) {n:Nat} (f:Nat -> α) {i:Nat} (hi:i < n) (x:α):Q0v (Q0h enc n f) (i * k) (enc x) = Q0h enc n (fun j=>if j = i then x else f j):=by
 have hs:=Q0i hk n f;have hik:i * k + k <= n * k:=by
  rw [<- Nat.succ_mul]; exact Nat.mul_le_mul_right k hi
 apply Array.ext_getElem?
 intro j;rw [Q3n _ _ _ _ (by rw [hk,hs]; exact hik),hk]
 rcases Nat.eq_zero_or_pos k with rfl | hk0
 . rw [if_neg (by omega)]
   have h1:(Q0h enc n f).size = 0:=by rw [hs,Nat.mul_zero]
   have h2:(Q0h enc n (fun j=>if j = i then x else f j)).size = 0:=by rw [Q0i hk,Nat.mul_zero]
   rw [Array.getElem?_eq_none (by omega),Array.getElem?_eq_none (by omega)]
 by_cases hj:j < n * k
 . have hq:j / k < n:=(Nat.div_lt_iff_lt_mul hk0).2 hj
   have hr:j % k < k:=Nat.mod_lt _ hk0;have e:j = j / k * k + j % k:=by rw [Nat.mul_comm]; exact (Nat.div_add_mod j k).symm
   by_cases hqi:j / k = i
   . rw [if_pos (by rw [<- hqi]; omega),show j - i * k = j % k from by rw [<- hqi]; omega]
     conv=>rhs; rw [e]
     rw [Q0x hk _ hq hr];rw [if_pos hqi]
   . rw [if_neg (by
      intro ⟨h1,h2⟩
      apply hqi
      have h3:i <= j / k:=(Nat.le_div_iff_mul_le hk0).2 h1;have h4:j / k < i + 1:=(Nat.div_lt_iff_lt_mul hk0).2 (by rw [Nat.succ_mul]; exact h2)
      omega)]
     conv=>lhs; rw [e]
     conv=>rhs; rw [e]
     rw [Q0x hk _ hq hr,Q0x hk _ hq hr];rw [if_neg hqi]
 . rw [if_neg (by omega),Array.getElem?_eq_none (by rw [hs]; omega),Array.getElem?_eq_none (by rw [Q0i hk]; omega)]
theorem Q3g {P:Program} {g off:Nat} {T:TypeId}:∀ (vs:List Value) (i:Nat) (w:World) (cs:Array Value),Blk w g T cs -> (∀ u ∈ vs,u.oneCell' = true) -> off + i + vs.length <= cs.size ->
    ∃ w',(storeCells ⟨g,off,none⟩ vs i).run P w = .ok () w' /\ Blk w' g T (Q0v cs (off + i) vs) /\ (∀ n,n <= g -> Below n w w') /\ ∀ k,k ≠ g -> w'.heap[k]? = w.heap[k]?
 | [],i,w,cs,h,_,hi=>⟨w,by simp [storeCells],h,fun _ _=>Below.refl _ _,fun _ _=>rfl⟩
 | v :: vs,i,w,cs,h,h1,hi=>by
   rw [List.length_cons] at hi;have hlt:off + i < cs.size:=by omega
   have h0:=h.cell (off + i);rw [Array.getElem?_eq_getElem hlt] at h0;have ea:(⟨g,off,none⟩:Addr).add i = ⟨g,off + i,none⟩:=by rw [addr_add]
   obtain ⟨w',hr,hb,hl,ho⟩:=Q3g (P:=P) (off:=off) vs (i + 1) (w.setCell ⟨g,off + i,none⟩ v) (cs.setIfInBounds (off + i) v) (h.set _ v) (fun u hu=>h1 u (List.mem_cons_of_mem _ hu)) (by rw [Array.size_setIfInBounds]; omega)
   refine ⟨w',?_,?_,fun n hn=>Below.trans ((Below.refl n w).setCell (p:=⟨g,off + i,none⟩) hn v) (hl n hn),fun k hk=>(ho k hk).trans (Below.heap_setCell _ _ _ _ hk)⟩
   . rw [storeCells,ea]
     simp only [Sem.run_bind,run_store P w _ v _ (h1 v (List.mem_cons_self ..)),h0,h.frozen (off + i),Bool.false_eq_true,if_false,Result.andThen_ok];exact hr
   . rw [Q0v]; exact hb
theorem Q3k {P:Program} {K:Value -> World -> Prop} {o:Oper} {a:Act} {w:World} (p x:Operand) (T:TypeId) (ho:o.op = .store T p x)
    {n:Nat} (hS:∀ w,(sizeOf T).run P w = .ok n w) {g off:Nat} (hp:a.eval p = .pointer (some ⟨g,off,none⟩)) {BT:TypeId} {cs vs:Array Value} (hx:a.eval x = .agg vs) (hb:Blk w g BT cs) (hn:off + n <= cs.size) (hv:vs.size = n) (h1:∀ u ∈ vs.toList,u.oneCell' = true)
    (h:∀ v w',Blk w' g BT (Q0v cs off vs.toList) -> (∀ n,n <= g -> Below n w w') -> (∀ k,k ≠ g -> w'.heap[k]? = w.heap[k]?) -> K v w'):gives P K ((execOp a.eval o).run P w):=by
 obtain ⟨w',hr,hb',hl,hoo⟩:=Q3g (P:=P) (off:=off) vs.toList 0 w cs hb h1 (by simp [hv]; omega)
 have hs:(storeVar T ⟨g,off,none⟩ (.agg vs)).run P w = .ok () w':=by
  have hc:(Value.agg vs).cells = vs:=rfl;unfold storeVar;simp only [Sem.run_bind,hS,Result.andThen_ok];rw [if_neg (by rw [hc]; simp [hv])]
  exact hr
 have hr2:(execOp a.eval o).run P w = .ok .skip w':=by
  unfold execOp;simp only [ho,hp,hx,Instr.storeAt,Instr.sureAddr,Sem.run_bind,Sem.run_pure,Result.andThen_ok,hs]
 rw [hr2];exact h _ _ hb' hl hoo
theorem X0f {P:Program} {w:World} (dT sT ty elem:TypeId) (hu:P.underlying dT = some (.slice elem)) {sz:Nat} (hs:∀ w,(sizeOf elem).run P w = .ok sz w) (n dcap scap:Nat) {g:Nat} {T:TypeId} {cur:Array Value} (hb:Blk w g T cur) (sp:Option Addr) (cs:List Value) (hlen:cs.length = n * sz)
    (hsrc:∀ j v,cs[j]? = some v -> ∃ b off,sp = some ⟨b,off,none⟩ /\ w.cell? ⟨b,off + j,none⟩ = some v) (hfit:cs.length <= cur.size) (h1:∀ v ∈ cs,v.oneCell' = true) :
    ∃ w',(Builtin.copy_ #[dT,sT] ty #[.slice (some ⟨g,0,none⟩) n dcap,.slice sp n scap]).run P w = .ok (goInt n) w' /\ Blk w' g T (Q0v cur 0 cs) /\ (∀ n,n <= g -> Below n w w') /\ ∀ k,k ≠ g -> w'.heap[k]? = w.heap[k]?:=by
 obtain ⟨w',hr,hb',hl,hoo⟩:=Q3g (P:=P) (off:=0) cs 0 w cur hb h1 (by simp; exact hfit)
 refine ⟨w',?_,hb',hl,hoo⟩;have hfc:(Builtin.firstCells sz n (.slice sp n scap)).run P w = .ok cs.toArray w:=by
  cases sp with
  | none =>
    have:cs = []:=by
     cases cs with
     | nil=>rfl
     | cons v vs=>obtain ⟨b,off,he,_⟩:=hsrc 0 v rfl; cases he
    subst this;simp [Builtin.firstCells]
  | some ad =>
    have hl2:=run_loadCells_list (P:=P) w ad cs (fun j v hv=>by
     obtain ⟨b,off,he,hc⟩:=hsrc j v hv;cases he;rw [addr_add]; exact hc)
    rw [hlen] at hl2
    simpa [Builtin.firstCells] using hl2
 simp [Builtin.copy_,run_underlying hu,Builtin.lenOf,hs,hfc,hr]
end
end Go.Tw
namespace Go.Proofs
open Go.RowKit Go.Tw Go.Flow
theorem clone_any (w:World) (v:Value) (l:List Int) (hv:IsInts w v l) :
    Calls Tryd.prog 93 #[v] w fun e w'=>∃ u,e = .returned u /\ Q0f w' 0 3 (.int .i64) u l /\ Ext w w':=by
 obtain ⟨A,cap,rfl,hl,hcap,hc⟩:=hv.opened;cases A with
 | none =>
   have hz:l = []:=by
    cases l with
    | nil=>rfl
    | cons x l=>obtain ⟨b,off,he,_⟩:=hc 0 (by simp); cases he
   subst hz;exact (Tryd.slices_Clone_int_nil _ _ _).mono fun e w' ⟨he,hw⟩=>⟨_,he,Q0f.nil _ _ _ _,by rw [hw]; exact Ext.refl _⟩
 | some a =>
   by_cases h0:l.length = 0
   . have hz:l = []:=List.length_eq_zero_iff.1 h0
     subst hz;exact (Tryd.slices_Clone_int_zero _ _ _).mono fun e w' ⟨v',he,hown,_,hx⟩=>⟨_,he,Q0f.weaken (show Q0f w' w.heap.size 3 (.int .i64) v' [] from hown) (Nat.zero_le _),hx⟩
   . obtain ⟨b,off,he,_⟩:=hc 0 (by omega)
     cases he;refine (Tryd.slices_Clone_int b off l.length cap l w (Nat.le_refl _) (by omega) (fun j hj=>?_)).mono fun e w' ⟨v',he,hown,_,hx⟩=>⟨_,he,Q0f.weaken (show Q0f w' w.heap.size 3 (.int .i64) v' l from by unfold Q0f; rw [List.take_length] at hown; exact hown) (Nat.zero_le _),hx⟩
     obtain ⟨b',off',he,h⟩:=hc j hj;cases he;exact h
theorem Q0r {w:World} {a b:Nat} {T S:TypeId} {cs ds:Array Value} (h:Blk w a T cs) (k:Blk w b S ds) (hT:T ≠ S):a ≠ b:=by
 rintro rfl;unfold Blk at h k;rw [h] at k;injection k with k;injection k with _ k _;exact hT k
theorem _root_.Go.Tw.Blk.only {w w':World} {a g:Nat} {T:TypeId} {cs:Array Value} (h:Blk w a T cs) (hne:a ≠ g) (ho:∀ k,k ≠ g -> w'.heap[k]? = w.heap[k]?):Blk w' a T cs:=by
 unfold Blk at *; rw [ho a hne]; exact h
theorem Q1r {w w':World} {v:Value} {l:List Int} {g:Nat} {T:TypeId} {cs:Array Value} (h:Q0f w 0 3 (.int .i64) v l) (hb:Blk w g T cs) (hT:T ≠ 3) (ho:∀ k,k ≠ g -> w'.heap[k]? = w.heap[k]?):Q0f w' 0 3 (.int .i64) v l :=
 Q9v h fun b hv _=>ho b fun e=>Q7m hT h hb (by rw [hv,e])
def enc2 (x:ByteArray × Int):List Value:=[.string x.1,.int .i64 x.2]
def enc3 (x:ByteArray × Int × Value):List Value:=[.string x.1,.int .i64 x.2.1,x.2.2]
theorem Q0u (x:ByteArray × Int):(enc2 x).length = 2:=rfl
theorem Q0t (x:ByteArray × Int × Value):(enc3 x).length = 3:=rfl
def emp:ByteArray:=⟨#[]⟩
def zero3:ByteArray × Int × Value:=(emp,0,.slice none 0 0)
def bF (t:Tree) (i:Nat):ByteArray × Int:=(bName t.basics i,bChance t.basics i)
def cF (t:Tree) (mc:Nat -> Value) (i:Nat):ByteArray × Int × Value:=(cName t.causes i,cChance t.causes i,mc i)
def gF (t:Tree) (mg:Nat -> Value) (i:Nat):ByteArray × Int × Value:=(gKind t.gates i,gNeed t.gates i,mg i)
structure Y1y (w:World) (base:Nat) (t:Tree) (gb gc gg:Nat) (mc mg:Nat -> Value):Prop where
 bas:Blk w gb 134 (Q0h enc2 t.basics.length (bF t))
 cau:Blk w gc 166 (Q0h enc3 t.causes.length (cF t mc))
 gat:Blk w gg 83 (Q0h enc3 t.gates.length (gF t mg))
 mem:∀ i,i < t.causes.length -> Q0f w 0 3 (.int .i64) (mc i) (cMembers t.causes i)
 inp:∀ i,i < t.gates.length -> Q0f w 0 3 (.int .i64) (mg i) (gInputs t.gates i)
 b:base <= gb
 c:base <= gc
 g:base <= gg
theorem made2 (n:Nat):madeCells #[.string emp,.int .i64 0] (n * 2) = Q0h enc2 n fun _=>(emp,0):=by
 apply Array.ext_getElem?
 intro j
 by_cases hj:j < n * 2
 . have e:j = j / 2 * 2 + j % 2:=by omega
   conv=>rhs; rw [e]
   rw [Q0x Q0u _ (by omega) (by omega)]
   unfold madeCells
   rcases Nat.mod_two_eq_zero_or_one j with h | h <;> simp [hj,h,enc2]
 . rw [Array.getElem?_eq_none (by rw [size_madeCells]; omega),Array.getElem?_eq_none (by rw [Q0i Q0u]; omega)]
theorem made3 (n:Nat):madeCells #[.string emp,.int .i64 0,.slice none 0 0] (n * 3) = Q0h enc3 n fun _=>zero3:=by
 apply Array.ext_getElem?
 intro j
 by_cases hj:j < n * 3
 . have e:j = j / 3 * 3 + j % 3:=by omega
   conv=>rhs; rw [e]
   rw [Q0x Q0t _ (by omega) (by omega)]
   unfold madeCells;have:j % 3 = 0 ∨ j % 3 = 1 ∨ j % 3 = 2:=by omega
   rcases this with h | h | h <;> simp [hj,h,enc3,zero3]
 . rw [Array.getElem?_eq_none (by rw [size_madeCells]; omega),Array.getElem?_eq_none (by rw [Q0i Q0t]; omega)]
theorem Tryd.Y2h:(Tryd.prog.info? 134).map (fun i=>(i.zero,i.size,i.bytes)) = some (some (.agg #[.string emp,.int .i64 0]),2,24):=by kernel_rfl
theorem Tryd.Y2t:(Tryd.prog.info? 166).map (fun i=>(i.zero,i.size,i.bytes)) = some (some (.agg #[.string emp,.int .i64 0,.slice none 0 0]),3,48):=by kernel_rfl
theorem Tryd.Y2w:(Tryd.prog.info? 83).map (fun i=>(i.zero,i.size,i.bytes)) = some (some (.agg #[.string emp,.int .i64 0,.slice none 0 0]),3,48):=by kernel_rfl
theorem Q5o {K:Value -> World -> Prop} {o:Oper} {a:Act} {w:World} (x:Operand) (t e:TypeId) (ho:o.op = .makeSlice t x x) (i:TypeInfo) (z:Value) (k bytes:Nat) (ht:Tryd.prog.underlying t = some (.slice e)) (hi:Tryd.prog.info? e = some i) (hz:i.zero = some z) (hs:i.size = k) (hby:i.bytes = bytes)
    (n:Nat) (hx:a.eval x = .int .i64 n) (hn:n <= 1000) (hb:bytes <= 1000)
    (h:K (.slice (some ⟨w.heap.size,0,none⟩) n n) (w.alloc (.cells (madeCells z.cells (n * k)) e))):gives Tryd.prog K ((execOp a.eval o).run Tryd.prog w):=by
 have hnb:bytes * n <= 1000 * 1000:=Nat.mul_le_mul hb hn;have hr:=run_make (P:=Tryd.prog) w t e i z ht hi hz .i64 .i64 n n (by omega) (Int.le_refl _) (by rw [hby]; have:((bytes * n:Nat):Int) <= 1000000:=(by omega); rw [Int.natCast_mul] at this; omega) (by omega)
 simp only [Int.toNat_natCast,hs] at hr;unfold execOp;simp only [ho,hx,Sem.run_bind,hr,Result.andThen_ok,Sem.run_pure];exact h
theorem X1i (cur:Array Value) (vs:List Value) (h:vs.length = cur.size):Q0v cur 0 vs = vs.toArray:=by
 apply Array.ext_getElem?
 intro j;rw [Q3n _ _ _ _ (by omega)]
 by_cases hj:j < vs.length
 . rw [if_pos (by omega),Nat.sub_zero,List.getElem?_toArray]
 . rw [if_neg (by omega),Array.getElem?_eq_none (show cur.size <= j by omega)]
   symm
   rw [Array.getElem?_eq_none];rw [List.size_toArray]; omega
theorem X5g {w:World} {A:Option Addr} {n cap:Nat} {l:List Basic} (h:IsBasics w (.slice A n cap) l):∀ (j:Nat) (v:Value),((List.range l.length).flatMap fun i=>enc2 (bName l i,bChance l i))[j]? = some v -> ∃ b off,A = some ⟨b,off,none⟩ /\ w.cell? ⟨b,off + j,none⟩ = some v:=by
 obtain ⟨A',cap',he,hl,hcap,hc⟩:=h.opened;cases he;intro j v hv;have hlen:((List.range l.length).flatMap fun i=>enc2 (bName l i,bChance l i)).length = l.length * 2:=by
  have:=Q0i Q0u l.length (fun i=>(bName l i,bChance l i));unfold Q0h at this
  simpa using this
 have hj:j < l.length * 2:=by
  rw [<- hlen];exact (List.getElem?_eq_some_iff.1 hv).1
 have e:j = j / 2 * 2 + j % 2:=by omega
 obtain ⟨b,off,rfl,_,c0,c1,_⟩:=hc (j / 2) (by omega)
 refine ⟨b,off,rfl,?_⟩;have hg:=Q0x Q0u (fun i=>(bName l i,bChance l i)) (n:=l.length) (i:=j / 2) (j:=j % 2) (by omega) (by omega)
 unfold Q0h at hg;rw [List.getElem?_toArray,<- e,hv] at hg
 rcases Nat.mod_two_eq_zero_or_one j with h0 | h0
 . rw [h0] at hg
   have:j = j / 2 * 2:=by omega
   rw [this,c0]; exact hg.symm
 . rw [h0] at hg
   have:off + j = off + j / 2 * 2 + 1:=by omega
   rw [this,c1]; exact hg.symm
theorem Q7d {P:Program} {w:World} {ops:Array Oper} {rest:List Oper} {o:Oper} {a:Act} {Q:Exit -> Act -> World -> Prop} (hgd:o.guard = none) (d s:Operand) (dT sT:TypeId) (ho:o.op = .call { callee:=.builtin .copy,args:=#[d,s],argTypes:=#[dT,sT] })
    (elem:TypeId) (hu:P.underlying dT = some (.slice elem)) {sz:Nat} (hs:∀ w,(sizeOf elem).run P w = .ok sz w) {n dcap scap:Nat} {g:Nat} {sp:Option Addr} (hd:a.eval d = .slice (some ⟨g,0,none⟩) n dcap) (hsv:a.eval s = .slice sp n scap)
    {T:TypeId} {cur:Array Value} (hb:Blk w g T cur) (cs:List Value) (hlen:cs.length = n * sz) (hsrc:∀ j v,cs[j]? = some v -> ∃ b off,sp = some ⟨b,off,none⟩ /\ w.cell? ⟨b,off + j,none⟩ = some v) (hfit:cs.length <= cur.size) (h1:∀ v ∈ cs,v.oneCell' = true)
    (hK:∀ w',Blk w' g T (Q0v cur 0 cs) -> (∀ n,n <= g -> Below n w w') -> (∀ k,k ≠ g -> w'.heap[k]? = w.heap[k]?) -> wpList P ops Q rest (a.put o.dst (goInt n)) w'):wpList P ops Q (o :: rest) a w:=by
 refine wpList_plain hgd fun K' hK'=>?_;unfold Oper.wp;obtain ⟨w',hr,hb',hl,hoo⟩:=X0f (P:=P) dT sT o.type elem hu hs n dcap scap hb sp cs hlen hsrc hfit h1;have hr2:(execOp a.eval o).run P w = .ok (.value (goInt n)) w':=by
  unfold execOp;simp only [ho,resolve,invoke,builtin,Sem.run_bind,Sem.run_pure,Result.andThen_ok,List.map_toArray,List.map_cons,List.map_nil,hd,hsv,hr]
 rw [hr2];exact hK' _ _ (hK w' hb' hl hoo)
end Go.Proofs
