/- Contract of the law's own function: given. Lists of lists whose parts are the call's own. -/
import Derived.Test.YthnobngcipaljaaGreatDoorPp33
import Derived.Test.YthnobngcipaljaaGreatDoorPp15
import Derived.Test.YthnobngcipaljaaGreatDoorPp20
import Derived.Test.YthnobngcipaljaaGreatDoorPp08
import Derived.Test.YthnobngcipaljaaGreatDoorPp09
import Derived.Test.YthnobngcipaljaaGreatDoorPp05
import Derived.Test.YthnobngcipaljaaGreatDoorPp07
set_option maxRecDepth 1000000
set_option maxHeartbeats 64000000
set_option linter.unusedVariables false
set_option linter.unusedSimpArgs false
set_option linter.constructorNameAsVariable false
open Go.Lib (hid)
namespace Go.Proofs
open Go.RowKit Go.Tw Go.Flow
attribute [local go_sem] Oper.semAt_some
abbrev MV:=Mem × Value × Value × Value
def Y4k (q:MV):List Value:=[.string q.1.name,.int .i64 q.1.weight,q.2.1,q.2.2.1,q.2.2.2]
theorem Y7t (q:MV):(Y4k q).length=5:=rfl
structure Y0w (w:World) (q:MV):Prop where
 c:Q0q w 0 3 (.int .i64) q.2.1 q.1.classes
 o:Q0q w 0 3 (.int .i64) q.2.2.1 q.1.outside
 i:Q0q w 0 3 (.int .i64) q.2.2.2 q.1.inflow
def J0w (w:World) (qs:List MV):Prop:=∀ q ∈ qs,Y0w w q
theorem Y0w.ext {w w':World} {q:MV} (h:Y0w w q) (hx:Ext w w'):Y0w w' q:=⟨h.c.below hx,h.o.below hx,h.i.below hx⟩
theorem Y0w.one {w:World} {q:MV} (h:Y0w w q):∀ u ∈ Y4k q,u.oneCell'=true:=by
 obtain ⟨_,_,e1,_⟩:=h.c.shape;obtain ⟨_,_,e2,_⟩:=h.o.shape;obtain ⟨_,_,e3,_⟩:=h.i.shape;intro u hu;simp only [Y4k,List.mem_cons,List.not_mem_nil,or_false] at hu
 rcases hu with rfl | rfl | rfl | rfl | rfl
 . rfl
 . rfl
 . rw [e1]; rfl
 . rw [e2]; rfl
 . rw [e3]; rfl
theorem Y0w.grown {w w':World} {q:MV} {base n size:Nat} {e:TypeId} {cv:Value} {xs:List Value} (h:Y0w w q) (hown:w.ownsRow base e size cv n xs) (he:e ≠ 3) (hg:w.grownBy w' cv.ownBlock):Y0w w' q:=⟨Q3d h.c hown he hg,Q3d h.o hown he hg,Q3d h.i hown he hg⟩
theorem Y0w.set {w:World} {q:MV} {O k:Nat} {u:Value} {S:TypeId} {cs:Array Value} (h:Y0w w q) (hb:Blk w O S cs) (hT:S ≠ 3):Y0w (w.setCell ⟨O,k,none⟩ u) q:=⟨Q8a h.c hb hT,Q8a h.o hb hT,Q8a h.i hb hT⟩
theorem Q6m {w w':World} {v:Value} {l:List Int} {g:Nat} {T S:TypeId} {cs:Array Value} (h:Q0q w 0 T (Value.int .i64) v l) (hb:Blk w g S cs) (hT:S ≠ T) (ho:∀ k,k ≠ g -> w'.heap[k]?=w.heap[k]?):Q0q w' 0 T (Value.int .i64) v l:=by
 obtain ⟨h1,h2⟩:=h;refine ⟨h1,?_⟩
 rcases h2 with h2 | ⟨g',cap,cur,hv,hbb,hgl,r⟩
 . exact .inl h2
 . refine .inr ⟨g',cap,cur,hv,hbb,?_,r⟩
   rw [ho g' ?_]; exact hgl;rintro rfl;unfold Blk at hb;rw [hb] at hgl;injection hgl with hgl;injection hgl with _ h3 _;exact hT h3
theorem Y0w.only {w w':World} {q:MV} {g:Nat} {S:TypeId} {cs:Array Value} (h:Y0w w q) (hb:Blk w g S cs) (hT:S ≠ 3) (ho:∀ k,k ≠ g -> w'.heap[k]?=w.heap[k]?):Y0w w' q:=⟨Q6m h.c hb hT ho,Q6m h.o hb hT ho,Q6m h.i hb hT ho⟩
theorem Z3f {w:World} {B:Nat} {T:TypeId} {v:Value} {qs:List MV} (h:Q0z w B T 5 Y4k v qs) (hl:qs.length <= 100000) (hr:J0w w qs) (hs:∀ q ∈ qs,Short q.1.name /\ q.1.classes.length <= 1000 /\ q.1.outside.length <= 1000 /\ q.1.inflow.length <= 1000):Q8h w v (qs.map (·.1)):=by
 refine h.rowsOf (by simp) (by simp; omega) Y7t (fun j h1 h2=>?_) (fun c c' x hc h=>?_)
 . have hq:=List.getElem_mem h1
   have hm:=hr _ hq;obtain ⟨s1,s2,s3,s4⟩:=hs _ hq;simp only [List.getElem_map];exact ⟨rfl,rfl,hm.c.ints (by omega),hm.o.ints (by omega),hm.i.ints (by omega),s1⟩
 . exact ⟨by rw [<- hc 0 (by omega)]; exact h.1,by rw [<- hc 1 (by omega)]; exact h.2.1,by rw [<- hc 2 (by omega)]; exact h.2.2.1,by rw [<- hc 3 (by omega)]; exact h.2.2.2.1,by rw [<- hc 4 (by omega)]; exact h.2.2.2.2.1,h.2.2.2.2.2⟩
theorem Tryz.Z8y:(Tryz.prog.info? 69).map (fun i=>(i.zero,i.size,i.bytes))=some (some (.agg #[.string ⟨#[]⟩,.int .i64 0,.slice none 0 0,.slice none 0 0,.slice none 0 0]),5,96):=by kernel_rfl
theorem Tryz.Z6y (w:World):(sizeOf 68).run Tryz.prog w=.ok 5 w:=by kernel_rfl
theorem Tryz.Z7t (w:World):(sizeOf 32).run Tryz.prog w=.ok 1 w:=by kernel_rfl
theorem Tryz.X3r (w:World):(sizeOf 34).run Tryz.prog w=.ok 3 w:=by kernel_rfl
theorem Tryz.Z3u (w:World):(isAgg 34).run Tryz.prog w=.ok true w:=by kernel_rfl
theorem X9g (w:World) (i:Int) (a:Option Addr) (n c:Nat):(Instr.build 34 #[(0,.int .i64 i),(1,.slice a n c)]).run Tryz.prog w=.ok (.agg #[.int .i64 i,.slice a n c,.slice none 0 0]) w:=by kernel_rfl
theorem Y1u (w:World) (s:ByteArray) (i:Int) (a b d:Option Addr) (n1 c1 n2 c2 n3 c3:Nat):(Instr.build 69 #[(0,.string s),(1,.int .i64 i),(2,.slice a n1 c1),(3,.slice b n2 c2),(4,.slice d n3 c3)]).run Tryz.prog w=.ok (.agg #[.string s,.int .i64 i,.slice a n1 c1,.slice b n2 c2,.slice d n3 c3]) w:=by kernel_rfl
theorem Z2k (w:World) (s:ByteArray) (i:Int) (a b d:Option Addr) (n1 c1 n2 c2 n3 c3:Nat):(Instr.buildSlice 32 1 #[(0,.agg #[.string s,.int .i64 i,.slice a n1 c1,.slice b n2 c2,.slice d n3 c3])]).run Tryz.prog w=.ok (.slice (some ⟨w.heap.size,0,none⟩) 1 1) (w.alloc (.cells #[.string s,.int .i64 i,.slice a n1 c1,.slice b n2 c2,.slice d n3 c3] 69)):=by kernel_rfl
theorem X8g {w:World} {o:Oper} {a:Act} (T:TypeId) (x y:Operand) (hop:o.op=.build T #[(0,x),(1,y)]) {u1 u2 r:Value} (h1:a.eval x=u1) (h2:a.eval y=u2) (hr:∀ w,(Instr.build T #[(0,u1),(1,u2)]).run Tryz.prog w=.ok r w):(execOp a.eval o).run Tryz.prog w=.ok (.value r) w:=by
 unfold execOp;simp only [hop,List.map_toArray,List.map_cons,List.map_nil,h1,h2,Sem.run_bind,hr,Result.andThen_ok,Sem.run_pure]
theorem Z0s {w:World} {o:Oper} {a:Act} (T:TypeId) (x y z p q:Operand) (hop:o.op=.build T #[(0,x),(1,y),(2,z),(3,p),(4,q)]) {u1 u2 u3 u4 u5 r:Value} (h1:a.eval x=u1) (h2:a.eval y=u2) (h3:a.eval z=u3) (h4:a.eval p=u4) (h5:a.eval q=u5) (hr:∀ w,(Instr.build T #[(0,u1),(1,u2),(2,u3),(3,u4),(4,u5)]).run Tryz.prog w=.ok r w):(execOp a.eval o).run Tryz.prog w=.ok (.value r) w:=by
 unfold execOp;simp only [hop,List.map_toArray,List.map_cons,List.map_nil,h1,h2,h3,h4,h5,Sem.run_bind,hr,Result.andThen_ok,Sem.run_pure]
theorem Z2c {P:Program} {ops:Array Oper} {Q:Exit -> Act -> World -> Prop} {rest:List Oper} {a:Act} {w:World} {T ty:TypeId} {p x:Operand} {pos} {after} (h:wpList P ops Q (⟨none,.store T p x,ty,pos,after,none⟩ :: rest) a w):wpList P ops Q (⟨none,.store T p x,ty,pos,after,none⟩ :: rest) a w:=h
theorem J2j {a:ByteArray} {b:Int} {X Y Z:Option Addr} {l m n c d e:Nat}:∀ u ∈ (#[Value.string a,.int .i64 b,.slice X l c,.slice Y m d,.slice Z n e]:Array Value).toList,u.oneCell'=true:=by
 intro u hu;simp only [List.mem_cons,List.not_mem_nil,or_false] at hu
 rcases hu with rfl | rfl | rfl | rfl | rfl <;> rfl
theorem Z9u (w:World) (v:Value) (s:Q0b) (hv:Q0h w v s) (hs:Q3k s) :
    Calls Tryz.prog 20 #[v] w fun e w'=>∃ u,e=.returned u /\ Q0h w' u s /\ Ext w w':=by
 obtain ⟨l0,li,lz0,lz1,lz2⟩:=info_parts Tryz.Z8y;obtain ⟨a,b,rfl,h2⟩:=hv;obtain ⟨A,capa,rfl,-,-,-⟩:=h2.ships.opened;obtain ⟨B,capb,rfl,-,-,hc⟩:=h2.members.opened;have H2:=hid h2;have HC:=hid hc;have HS:=hid hs;have hT7:=hs.ships;have hn9:=hs.members;obtain ⟨n,hn⟩:∃ n,s.members.length=n:=⟨_,rfl⟩;have HN:=hid hn;obtain ⟨T,hT⟩:∃ n,s.ships.length=n:=⟨_,rfl⟩;have HT:=hid hT;obtain ⟨lim,hlim⟩:∃ n,s.limit=n:=⟨_,rfl⟩;have HLIM:=hid hlim;have hi2:=h2.ships;rw [hT] at hi2 hT7;rw [hn] at HC hn9;rw [hn,hT,hlim];have HSH:=hid hi2;clear h2 hc hs hn hT hlim hi2;go_enter Tryz.func20,Tryz.ntmps20;go_wp2_with fail;obtain ⟨W,hWW,k0,k1,HXW,eW⟩:=Q4e w 25 #[.int .i64 lim,.slice A T capa,.slice B n capb] 34 #[.int .i64 0,.slice none 0 0,.slice none 0 0];rw [hWW];clear hWW;obtain ⟨gs,hgs⟩:∃ x,w.heap.size=x:=⟨_,rfl⟩;have HGS:=hid hgs;rw [hgs] at k0 k1 eW ⊢;have K0:=hid k0;have K1:=hid k1;clear k0 k1 hgs;have hdr:=(Ext.refl W).drew;refine Flow.Q4m [.p,.w,.p,.w,.w,.p,.w,.last] [0,1,2,3,4,5,6,7] [[],[0],[],[2],[2,3],[0,1,2,3,4],[],[0,1,2,3,4,5,6]] [7]
  [.c 0 (.pointer (some ⟨gs,0,none⟩)),.c 1 (.int .i64 lim),.c 2 (.pointer (some ⟨gs,1,none⟩)),.c 3 (.slice A T capa),⟨fun v wz=>(fun v w'=>Q0q w' 0 3 (.int .i64) (v 4) s.ships) v wz,fun _ _ _ hx h=>Q0q.below h hx⟩,⟨fun v wz=>(fun v w'=>v 5=.agg #[.int .i64 lim,v 4,.slice none 0 0]) v wz,by intro _ _ _ _ h; exact h⟩,⟨fun v wz=>(fun v w'=>∃ g,v 6=.pointer (some ⟨g,0,none⟩) /\ Blk w' g 34 #[.int .i64 0,.slice none 0 0,.slice none 0 0] /\ W.heap.size <= g) v wz,by rintro v a b hx ⟨g,h1,h2,h3⟩; exact ⟨g,h1,h2.ext hx,h3⟩⟩,.none]
  [fun v w1 w'=>∃ g,v 6=.pointer (some ⟨g,0,none⟩) /\ Blk w1 g 34 #[.int .i64 0,.slice none 0 0,.slice none 0 0] /\ Blk w' g 34 #[.int .i64 lim,v 4,.slice none 0 0] /\ (∀ n,n <= g -> Below n w1 w') /\ (∀ k,k ≠ g -> w'.heap[k]?=w1.heap[k]?) /\ W.heap.size <= g /\ Q0q w1 0 3 (.int .i64) (v 4) s.ships] (by kernel_rfl) rfl (by kernel_rfl) ⟨?g0,?g1,?g2,?g3,?g4,?g5,?g6,?g7,trivial⟩ ?post
 case g0 | g2=>
  intro v w1 hx;intro bb hbb;subst hbb;refine ⟨_,fun w=>?_,rfl⟩;go_simp
 case g1 | g3=>
  intro v w1 hx;(repeat intro (zq:v _=_));intro bb hbb;subst hbb;have n0:w1.cell? ⟨gs,0,none⟩=some (.int .i64 lim):=(K0.out.ext (hdr.trans hx)).cell 0;have n1:w1.cell? ⟨gs,1,none⟩=some (.slice A T capa):=(K0.out.ext (hdr.trans hx)).cell 1;intro K hK;go_simp;exact hK _ _ (Ext.refl _) rfl
 case g4=>
  intro v w1 hx;(repeat intro (zq:v _=_));intro bb hbb;subst hbb;intro K hK;go_simp;refine Q0e (Q8m w1 _ _ (HSH.out.ext (HXW.out.trans (hdr.trans hx))) (by rw [HT.out]; omega)) ?_
  rintro e w2 ⟨u,rfl,hown,hx2⟩;exact ⟨_,rfl,hK _ _ hx2 (Q0q.weaken hown (Nat.zero_le _))⟩
 case g5=>
  intro v w1 hx (q0:v 0=_) (q1:v 1=_) (q2:v 2=_) (q3:v 3=_) (q4:(fun v w'=>Q0q w' 0 3 (.int .i64) (v 4) s.ships) v w1);intro bb hbb;obtain ⟨s9,c9,e9,_⟩:=Q0q.shape q4;have o1:bb.eval (.tmp 7)=.int .i64 lim:=by rw [hbb]; dsimp only; (try simp (discharger:=decide) only [eval_put_ne]); rw [Q0a (by simp only [size_put]; exact (by decide:7 < 40))]; exact q1
  have o2:bb.eval (.tmp 10)=v 4:=by rw [hbb]; dsimp only; (try simp (discharger:=decide) only [eval_put_ne]); rw [Q0a (by simp only [size_put]; exact (by decide:10 < 40))]
  rw [e9] at o2;exact ⟨_,fun w=>X8g _ (.tmp 7) (.tmp 10) rfl o1 o2 (fun w=>X9g w _ _ _ _),by show Value.agg #[.int .i64 lim,.slice s9 s.ships.length c9,.slice none 0 0]=Value.agg #[.int .i64 lim,v 4,.slice none 0 0]; rw [e9]⟩
 case g6=>
  intro v w1 hx;intro bb hbb;subst hbb;intro K hK;go_simp;exact hK _ _ (Ext.box _ _) ⟨_,rfl,Blk.made _ _ _,(hdr.trans hx).size⟩
 case g7=>
  intro v w1 hx (q0:v 0=_) (q1:v 1=_) (q2:v 2=_) (q3:v 3=_) (q4:(fun v w'=>Q0q w' 0 3 (.int .i64) (v 4) s.ships) v w1) (q5:(fun v w'=>v 5=.agg #[.int .i64 lim,v 4,.slice none 0 0]) v w1) (q6:(fun v w'=>∃ g,v 6=.pointer (some ⟨g,0,none⟩) /\ Blk w' g 34 #[.int .i64 0,.slice none 0 0,.slice none 0 0] /\ W.heap.size <= g) v w1);intro wl hT;obtain rfl:wl=w1:=hT;intro bb hbb;intro K hK;obtain ⟨g,e13,h13,h13s⟩:=q6;obtain ⟨s9,c9,e9,_⟩:=Q0q.shape q4;have o1:bb.eval (.tmp 3)=.pointer (some ⟨g,0,none⟩):=by rw [hbb]; dsimp only; (try simp (discharger:=decide) only [eval_put_ne]); rw [Q0a (by simp only [size_put]; exact (by decide:3 < 40))]; exact e13
  have o2:bb.eval (.tmp 11)=.agg #[.int .i64 lim,v 4,.slice none 0 0]:=by rw [hbb]; dsimp only; (try simp (discharger:=decide) only [eval_put_ne]); rw [Q0a (by simp only [size_put]; exact (by decide:11 < 40))]; exact q5
  exact Q2b (.tmp 3) (.tmp 11) _ rfl Tryz.X3r o1 o2 h13 rfl rfl (by intro u hu; rw [e9] at hu; simp only [List.mem_cons,List.not_mem_nil,or_false] at hu; rcases hu with rfl | rfl | rfl <;> rfl) (fun vv w' hb hl ho=>hK _ _ ⟨g,e13,h13,hb,hl,ho,h13s,q4⟩)
 case post =>
  intro v w1 hx (q0:v 0=_) (q1:v 1=_) (q2:v 2=_) (q3:v 3=_) (q4:(fun v w'=>Q0q w' 0 3 (.int .i64) (v 4) s.ships) v w1) (q5:(fun v w'=>v 5=.agg #[.int .i64 lim,v 4,.slice none 0 0]) v w1) (q6:(fun v w'=>∃ g,v 6=.pointer (some ⟨g,0,none⟩) /\ Blk w' g 34 #[.int .i64 0,.slice none 0 0,.slice none 0 0] /\ W.heap.size <= g) v w1);intro w2 hE;replace hE:(fun v w1 w'=>∃ g,v 6=.pointer (some ⟨g,0,none⟩) /\ Blk w1 g 34 #[.int .i64 0,.slice none 0 0,.slice none 0 0] /\ Blk w' g 34 #[.int .i64 lim,v 4,.slice none 0 0] /\ (∀ n,n <= g -> Below n w1 w') /\ (∀ k,k ≠ g -> w'.heap[k]?=w1.heap[k]?) /\ W.heap.size <= g /\ Q0q w1 0 3 (.int .i64) (v 4) s.ships) v w1 w2:=hE;simp only [Flow.acts,Act.put];go_simp;obtain ⟨O,e6,hbO,hb9,hl9,ho9,hOs,hu4⟩:=hE;have hxx:=hdr.trans hx;have hx2:Ext W w2:=Below.trans hxx (hl9 _ hOs);have hus:=Q6m hu4 hbO (by decide) ho9
  obtain ⟨su,cu,eu,_⟩:=hus.shape;have HX2:=hid hx2;have HK0:=hid (K0.out.ext hx2);have HK1:=hid (K1.out.ext hx2);have HOW:Hid (W.heap.size <= O):=hid hOs;rw [e6];obtain ⟨uv,huv⟩:∃ z,v 4=z:=⟨_,rfl⟩;rw [huv] at hb9 hus eu ⊢;have HU:=hid hus;have HBO:=hid hb9;have HEU:=hid eu;have hgO:gs + 1 + 1 <= O:=by omega
  have hOw:O + 1 <= w2.heap.size:=by have:=hb9.lt; omega
  have c2:w2.cell? ⟨gs,2,none⟩=some (.slice B n capb):=HK0.out.cell 2;obtain ⟨wb,rfl⟩:∃ Z,Z=w2:=⟨_,rfl⟩;clear hx hdr hxx hx2 hus eu hbO hb9 hl9 ho9 hOs hu4 e6 huv eW q0 q1 q2 q3 q4 q5 q6;go_wp2_with fail;clear c2
  go_loopw [15] (fun i wr=>∃ (k:Nat) (xv:Value) (qs:List MV),k <= n /\ i=.int .i64 k /\ Q0z wr wb.heap.size 69 5 Y4k xv qs /\ qs.map (·.1)=s.members.take k /\ J0w wr qs /\ Q0q wr 0 3 (.int .i64) uv s.ships /\ Blk wr O 34 #[.int .i64 lim,uv,xv] /\ Off O wb wr) (fun i _=>n - (intOf i).toNat)
  case atStart=>exact ⟨0,_,[],Nat.zero_le _,rfl,Q0z.nil _ _ _ _ _,rfl,(fun q hq=>by simp at hq),HU.out,HBO.out,Off.refl _ _⟩
  case round =>
   obtain ⟨k,xv,qs,hk,rfl,hown,hqs,hmr,hu,hbo,hoff⟩:=hrel;have hqk:qs.length=k:=by rw [<- List.length_map (f:=(·.1)),hqs,List.length_take,HN.out]; omega
   have hxr:Ext w wr:=Below.trans HXW.out (Below.trans (HX2.out.mono (by have:=HGS.out; have:=HXW.out.size; omega)) (hoff.1.mono (by have:=HGS.out; omega)))
   have HQS:=hid hqs;have HMR:=hid hmr;have HUU:=hid hu;have HOWN:=hid hown;have HBK:=hid hbo;have HOF:=hid hoff
   by_cases hlt:k < n
   . have hkI:(k:Int) < n:=by omega
     obtain ⟨b1,off,x,y,z,rfl,hb,e0,e1,e2,e3,e4,hi1,hi2,hi3,hsn⟩:=HC.out k hlt;replace e0:=hxr.cell e0;replace e1:=hxr.cell e1;replace e2:=hxr.cell e2;replace e3:=hxr.cell e3;replace e4:=hxr.cell e4;obtain ⟨X,capx,rfl,-,-,-⟩:=hi1.opened;obtain ⟨Y,capy,rfl,-,-,-⟩:=hi2.opened;obtain ⟨Z,capz,rfl,-,-,-⟩:=hi3.opened;have hsh:=HS.out.each k (by rw [HN.out]; exact hlt)
     obtain ⟨-,hs1,hs2,hs3⟩:=hsh;have htk:s.members.take (k + 1)=s.members.take k ++ [⟨Q1h s.members k,Q0i s.members k,Q0c s.members k,Q0t s.members k,Q0y s.members k⟩]:=by
      rw [List.take_succ_eq_append_getElem (by rw [HN.out]; exact hlt)]
      unfold Q1h Q0i Q0c Q0t Q0y;rw [Q0v _ (by rw [HN.out]; exact hlt)]
     have HTK:=hid htk;have HI1:=hid (hi1.ext hxr);have HI2:=hid (hi2.ext hxr);have HI3:=hid (hi3.ext hxr);obtain ⟨nm,hnm⟩:∃ x,Q1h s.members k=x:=⟨_,rfl⟩;obtain ⟨wt,hwt⟩:∃ x,Q0i s.members k=x:=⟨_,rfl⟩;obtain ⟨l1,hl1⟩:∃ x,Q0c s.members k=x:=⟨_,rfl⟩;obtain ⟨l2,hl2⟩:∃ x,Q0t s.members k=x:=⟨_,rfl⟩;obtain ⟨l3,hl3⟩:∃ x,Q0y s.members k=x:=⟨_,rfl⟩;rw [hnm,hwt,hl1,hl2,hl3] at HTK;rw [hnm] at e0;rw [hwt] at e1;rw [hl1] at e2 HI1 hs1;rw [hl2] at e3 HI2 hs2;rw [hl3] at e4 HI3 hs3;obtain ⟨wq,rfl⟩:∃ Z,Z=wr:=⟨_,rfl⟩;clear hown hqs hmr hu hbo hoff hxr hi1 hi2 hi3 hsn htk hnm hwt hl1 hl2 hl3;go_wp2_with (with_reducible (refine Z2c ?_); refine Q0s rfl _ _ _ rfl Tryz.Z6y rfl rfl (Blk.made _ _ _) rfl rfl J2j ?_; intro w3 hb3 hl3' ho3; refine halted ?_);obtain ⟨gm,hgm⟩:∃ x,wq.heap.size=x:=⟨_,rfl⟩;have hx3:Ext wq w3:=Below.trans (Ext.box wq _) (hl3' _ (Nat.le_refl _));rw [hgm] at hb3 ⊢;have hgO:O < gm:=by have:=HBK.out.lt; omega
     have KB:=hid hb3;have HX3:=hid hx3;have HBK3:=hid (HBK.out.ext hx3);have HOW3:=hid (HOWN.out.below hx3);have HMR3:Hid (J0w w3 qs):=hid (fun q hq=>(HMR.out q hq).ext hx3);have HU3:=hid (HUU.out.below hx3);have HOF3:=hid (HOF.out.ext hx3 (by omega))
     have HJ1:=hid (HI1.out.ext hx3);have HJ2:=hid (HI2.out.ext hx3);have HJ3:=hid (HI3.out.ext hx3);have hdr:=(Ext.refl w3).drew;have hs3w:wb.heap.size <= w3.heap.size:=HOF3.out.2.1;clear hb3 hl3' ho3 hx3 hgm e0 e1 e2 e3 e4;unfold Q1i;go_wp2_with fail;refine Flow.Q4m [.p,.w,.p,.w,.p,.w,.p,.w,.w,.p,.w,.w,.p,.w,.w,.p,.w,.last,.last,.last] [0,1,2,3,4,5,6,7,8,9,10,11,12,13,14,15,16,17,18,19] [[],[0],[],[2],[],[4],[],[6],[6,7],[],[9],[6,7,8,9,10],[],[12],[6,7,8,9,10,11,12,13],[2,3,4,5,6,7,8,9,10,11,12,13,14],[2,3,4,5,6,7,8,9,10,11,12,13,14,15],[0,1,2,3,4,5,6,7,8,9,10,11,12,13,14,15,16],[0,1,2,3,4,5,6,7,8,9,10,11,12,13,14,15,16,17],[0,1,2,3,4,5,6,7,8,9,10,11,12,13,14,15,16,17,18]] [17,18,19]
      [.c 0 (.pointer (some ⟨O,2,none⟩)),.c 1 (xv),.c 2 (.pointer (some ⟨gm,0,none⟩)),.c 3 (.string nm),.c 4 (.pointer (some ⟨gm,1,none⟩)),.c 5 (.int .i64 wt),.c 6 (.pointer (some ⟨gm,2,none⟩)),.c 7 (.slice X l1.length capx),⟨fun v wz=>(fun v w'=>Q0q w' 0 3 (.int .i64) (v 8) l1) v wz,fun _ _ _ hx h=>Q0q.below h hx⟩,.c 9 (.pointer (some ⟨gm,3,none⟩)),.c 10 (.slice Y l2.length capy),⟨fun v wz=>(fun v w'=>Q0q w' 0 3 (.int .i64) (v 11) l2) v wz,fun _ _ _ hx h=>Q0q.below h hx⟩,.c 12 (.pointer (some ⟨gm,4,none⟩)),.c 13 (.slice Z l3.length capz),⟨fun v wz=>(fun v w'=>Q0q w' 0 3 (.int .i64) (v 14) l3) v wz,fun _ _ _ hx h=>Q0q.below h hx⟩,⟨fun v wz=>(fun v w'=>v 15=.agg #[.string nm,.int .i64 wt,v 8,v 11,v 14]) v wz,by intro _ _ _ _ h; exact h⟩,⟨fun v wz=>(fun v w'=>∃ g,v 16=.slice (some ⟨g,0,none⟩) 1 1 /\ Blk w' g 69 (Y4k (⟨nm,wt,l1,l2,l3⟩,v 8,v 11,v 14)).toArray) v wz,by rintro v a b hx ⟨g,h1,h2⟩; exact ⟨g,h1,h2.ext hx⟩⟩,.none,.none,.none]
      [fun v w1 w'=>Q0z w' wb.heap.size 69 5 Y4k (v 17) (qs ++ [(⟨nm,wt,l1,l2,l3⟩,v 8,v 11,v 14)]) /\ w1.grownBy w' xv.ownBlock,fun v w1 w'=>v 18=.pointer (some ⟨O,2,none⟩) /\ Q0z w' wb.heap.size 69 5 Y4k (v 17) (qs ++ [(⟨nm,wt,l1,l2,l3⟩,v 8,v 11,v 14)]) /\ w1.grownBy w' xv.ownBlock,fun v w1 w'=>∃ x wm,Q0z wm wb.heap.size 69 5 Y4k x (qs ++ [(⟨nm,wt,l1,l2,l3⟩,v 8,v 11,v 14)]) /\ w1.grownBy wm xv.ownBlock /\ w'=wm.setCell ⟨O,2,none⟩ x] (by kernel_rfl) rfl (by kernel_rfl) ⟨?g0,?g1,?g2,?g3,?g4,?g5,?g6,?g7,?g8,?g9,?g10,?g11,?g12,?g13,?g14,?g15,?g16,?g17,?g18,?g19,trivial⟩ ?post
     case g0 | g2 | g4 | g6 | g9 | g12=>
      intro v w1 hx;intro bb hbb;subst hbb;refine ⟨_,fun w=>?_,rfl⟩;go_simp
     case g1 | g3 | g5 | g7 | g10 | g13=>
      intro v w1 hx;(repeat intro (zq:v _=_));intro bb hbb;subst hbb;have n0:w1.cell? ⟨O,2,none⟩=some xv:=(HBK3.out.ext (hdr.trans hx)).cell 2;have n1:w1.cell? ⟨gm,0,none⟩=some (.string nm):=(KB.out.ext (hdr.trans hx)).cell 0;have n2:w1.cell? ⟨gm,1,none⟩=some (.int .i64 wt):=(KB.out.ext (hdr.trans hx)).cell 1;have n3:w1.cell? ⟨gm,2,none⟩=some (.slice X l1.length capx):=(KB.out.ext (hdr.trans hx)).cell 2;have n4:w1.cell? ⟨gm,3,none⟩=some (.slice Y l2.length capy):=(KB.out.ext (hdr.trans hx)).cell 3;have n5:w1.cell? ⟨gm,4,none⟩=some (.slice Z l3.length capz):=(KB.out.ext (hdr.trans hx)).cell 4;intro K hK;go_simp;exact hK _ _ (Ext.refl _) rfl
     case g8=>
      intro v w1 hx;(repeat intro (zq:v _=_));intro bb hbb;subst hbb;intro K hK;go_simp;refine Q0e (Q8m w1 _ _ (HJ1.out.ext (hdr.trans hx)) (by omega)) ?_
      rintro e w2 ⟨u,rfl,hown,hx2⟩;exact ⟨_,rfl,hK _ _ hx2 (Q0q.weaken hown (Nat.zero_le _))⟩
     case g11=>
      intro v w1 hx (q6:v 6=_) (q7:v 7=_) _ (q9:v 9=_) (q10:v 10=_);intro bb hbb;subst hbb;intro K hK;go_simp;refine Q0e (Q8m w1 _ _ (HJ2.out.ext (hdr.trans hx)) (by omega)) ?_
      rintro e w2 ⟨u,rfl,hown,hx2⟩;exact ⟨_,rfl,hK _ _ hx2 (Q0q.weaken hown (Nat.zero_le _))⟩
     case g14=>
      intro v w1 hx (q6:v 6=_) (q7:v 7=_) _ (q9:v 9=_) (q10:v 10=_) _ (q12:v 12=_) (q13:v 13=_);intro bb hbb;subst hbb;intro K hK;go_simp;refine Q0e (Q8m w1 _ _ (HJ3.out.ext (hdr.trans hx)) (by omega)) ?_
      rintro e w2 ⟨u,rfl,hown,hx2⟩;exact ⟨_,rfl,hK _ _ hx2 (Q0q.weaken hown (Nat.zero_le _))⟩
     case g15=>
      intro v w1 hx (q2:v 2=_) (q3:v 3=_) (q4:v 4=_) (q5:v 5=_) (q6:v 6=_) (q7:v 7=_) (q8:(fun v w'=>Q0q w' 0 3 (.int .i64) (v 8) l1) v w1) (q9:v 9=_) (q10:v 10=_) (q11:(fun v w'=>Q0q w' 0 3 (.int .i64) (v 11) l2) v w1) (q12:v 12=_) (q13:v 13=_) (q14:(fun v w'=>Q0q w' 0 3 (.int .i64) (v 14) l3) v w1);intro bb hbb;obtain ⟨s9,c9,e9,_⟩:=Q0q.shape q8;obtain ⟨s10,c10,e10,_⟩:=Q0q.shape q11;obtain ⟨s11,c11,e11,_⟩:=Q0q.shape q14;have o1:bb.eval (.tmp 22)=.string nm:=by rw [hbb]; dsimp only; (try simp (discharger:=decide) only [eval_put_ne]); rw [Q0a (by simp only [size_put]; exact (by decide:22 < 40))]; exact q3
      have o2:bb.eval (.tmp 24)=.int .i64 wt:=by rw [hbb]; dsimp only; (try simp (discharger:=decide) only [eval_put_ne]); rw [Q0a (by simp only [size_put]; exact (by decide:24 < 40))]; exact q5
      have o3:bb.eval (.tmp 27)=v 8:=by rw [hbb]; dsimp only; (try simp (discharger:=decide) only [eval_put_ne]); rw [Q0a (by simp only [size_put]; exact (by decide:27 < 40))]
      have o4:bb.eval (.tmp 30)=v 11:=by rw [hbb]; dsimp only; (try simp (discharger:=decide) only [eval_put_ne]); rw [Q0a (by simp only [size_put]; exact (by decide:30 < 40))]
      have o5:bb.eval (.tmp 33)=v 14:=by rw [hbb]; dsimp only; (try simp (discharger:=decide) only [eval_put_ne]); rw [Q0a (by simp only [size_put]; exact (by decide:33 < 40))]
      rw [e9] at o3;rw [e10] at o4;rw [e11] at o5;exact ⟨_,fun w=>Z0s _ (.tmp 22) (.tmp 24) (.tmp 27) (.tmp 30) (.tmp 33) rfl o1 o2 o3 o4 o5 (fun w=>Y1u w _ _ _ _ _ _ _ _ _ _ _),by show Value.agg #[.string nm,.int .i64 wt,.slice s9 l1.length c9,.slice s10 l2.length c10,.slice s11 l3.length c11]=Value.agg #[.string nm,.int .i64 wt,v 8,v 11,v 14]; rw [e9,e10,e11]⟩
     case g16=>
      intro v w1 hx (q2:v 2=_) (q3:v 3=_) (q4:v 4=_) (q5:v 5=_) (q6:v 6=_) (q7:v 7=_) (q8:(fun v w'=>Q0q w' 0 3 (.int .i64) (v 8) l1) v w1) (q9:v 9=_) (q10:v 10=_) (q11:(fun v w'=>Q0q w' 0 3 (.int .i64) (v 11) l2) v w1) (q12:v 12=_) (q13:v 13=_) (q14:(fun v w'=>Q0q w' 0 3 (.int .i64) (v 14) l3) v w1) (q15:(fun v w'=>v 15=.agg #[.string nm,.int .i64 wt,v 8,v 11,v 14]) v w1);intro bb hbb;intro K hK;obtain ⟨s9,c9,e9,_⟩:=Q0q.shape q8;obtain ⟨s10,c10,e10,_⟩:=Q0q.shape q11;obtain ⟨s11,c11,e11,_⟩:=Q0q.shape q14;have o1:bb.eval (.tmp 34)=.agg #[.string nm,.int .i64 wt,v 8,v 11,v 14]:=by rw [hbb]; dsimp only; (try simp (discharger:=decide) only [eval_put_ne]); rw [Q0a (by simp only [size_put]; exact (by decide:34 < 40))]; exact q15
      rw [e9,e10,e11] at o1;have hbl:Blk (w1.alloc (.cells (Value.agg #[.string nm,.int .i64 wt,.slice s9 l1.length c9,.slice s10 l2.length c10,.slice s11 l3.length c11]).cells 69)) w1.heap.size 69 (Y4k (⟨nm,wt,l1,l2,l3⟩,v 8,v 11,v 14)).toArray:=by rw [e9,e10,e11]; exact Blk.made _ _ _
      exact Q3i 32 69 (.tmp 34) rfl o1 (Z2k w1 _ _ _ _ _ _ _ _ _ _ _) (hK _ _ (Ext.box _ _) ⟨_,rfl,hbl⟩)
     case g17=>
      intro v w1 hx (q0:v 0=_) (q1:v 1=_) (q2:v 2=_) (q3:v 3=_) (q4:v 4=_) (q5:v 5=_) (q6:v 6=_) (q7:v 7=_) (q8:(fun v w'=>Q0q w' 0 3 (.int .i64) (v 8) l1) v w1) (q9:v 9=_) (q10:v 10=_) (q11:(fun v w'=>Q0q w' 0 3 (.int .i64) (v 11) l2) v w1) (q12:v 12=_) (q13:v 13=_) (q14:(fun v w'=>Q0q w' 0 3 (.int .i64) (v 14) l3) v w1) _ (q16:(fun v w'=>∃ g,v 16=.slice (some ⟨g,0,none⟩) 1 1 /\ Blk w' g 69 (Y4k (⟨nm,wt,l1,l2,l3⟩,v 8,v 11,v 14)).toArray) v w1);intro wl hT;obtain rfl:wl=w1:=hT;intro bb hbb;intro K hK;obtain ⟨g,hg10,hb10⟩:=q16;have o1:bb.eval (.tmp 20)=xv:=by rw [hbb]; dsimp only; (try simp (discharger:=decide) only [eval_put_ne]); rw [Q0a (by simp only [size_put]; exact (by decide:20 < 40))]; exact q1
      have o2:bb.eval (.tmp 35)=.slice (some ⟨g,0,none⟩) 1 1:=by rw [hbb]; dsimp only; (try simp (discharger:=decide) only [eval_put_ne]); rw [Q0a (by simp only [size_put]; exact (by decide:35 < 40))]; exact hg10
      have hxx:=hdr.trans hx;exact Q2i _ _ 32 rfl wb.heap.size 69 l0 (.agg #[.string ⟨#[]⟩,.int .i64 0,.slice none 0 0,.slice none 0 0,.slice none 0 0]) 5 96 Tryz.underlying32 li lz0 lz1 lz2 rfl (by decide) Y4k Y7t xv _ (⟨nm,wt,l1,l2,l3⟩,v 8,v 11,v 14) o1 (HOW3.out.below hxx) ⟨g,0,none⟩ 1 o2 (Q5g hb10) (Y0w.one (q:=(⟨nm,wt,l1,l2,l3⟩,v 8,v 11,v 14)) ⟨q8,q11,q14⟩) (by omega) (by decide) (by have:=hxx.size; omega) (fun v' w' h1 h2=>hK _ _ ⟨h1,h2⟩)
     case g18=>
      intro v w1 hx (q0:v 0=_) (q1:v 1=_) (q2:v 2=_) (q3:v 3=_) (q4:v 4=_) (q5:v 5=_) (q6:v 6=_) (q7:v 7=_) _ (q9:v 9=_) (q10:v 10=_) _ (q12:v 12=_) (q13:v 13=_) _ _ _;intro wl hT;replace hT:(fun v w1 w'=>Q0z w' wb.heap.size 69 5 Y4k (v 17) (qs ++ [(⟨nm,wt,l1,l2,l3⟩,v 8,v 11,v 14)]) /\ w1.grownBy w' xv.ownBlock) v w1 wl:=hT;intro bb hbb;subst hbb;intro K hK;go_simp;exact hK _ _ ⟨rfl,hT⟩
     case g19=>
      intro v w1 hx (q0:v 0=_) (q1:v 1=_) (q2:v 2=_) (q3:v 3=_) (q4:v 4=_) (q5:v 5=_) (q6:v 6=_) (q7:v 7=_) _ (q9:v 9=_) (q10:v 10=_) _ (q12:v 12=_) (q13:v 13=_) _ _ _;intro wl hT;replace hT:(fun v w1 w'=>v 18=.pointer (some ⟨O,2,none⟩) /\ Q0z w' wb.heap.size 69 5 Y4k (v 17) (qs ++ [(⟨nm,wt,l1,l2,l3⟩,v 8,v 11,v 14)]) /\ w1.grownBy w' xv.ownBlock) v w1 wl:=hT;intro bb hbb;intro K hK;obtain ⟨hT0,hT1,hT2⟩:=hT;have hxx:=hdr.trans hx;obtain ⟨bp,cp,hsh,_⟩:=hT1.shape;have o1:bb.eval (.tmp 37)=.pointer (some ⟨O,2,none⟩):=by rw [hbb]; dsimp only; (try simp (discharger:=decide) only [eval_put_ne]); rw [Q0a (by simp only [size_put]; exact (by decide:37 < 40))]; exact hT0
      have o2:bb.eval (.tmp 36)=v 17:=by rw [hbb]; dsimp only; (try simp (discharger:=decide) only [eval_put_ne]); rw [Q0a (by simp only [size_put]; exact (by decide:36 < 40))]
      have hbl:=Go.Tw.Q5l (HBK3.out.ext hxx) (HOW3.out.below hxx) (by omega) hT2
      exact Q3y _ _ rfl Tryz.Z7t (g:=O) (k:=2) o1 o2 (by rw [hsh]; rfl) (by rw [hsh]; rfl) hbl (by show 2 < 3; omega) (fun v'=>hK _ _ ⟨v 17,wl,hT1,hT2,rfl⟩)
     case post =>
      intro v w1 hx;(iterate 8 intro (zq:v _=_));intro (q8:(fun v w'=>Q0q w' 0 3 (.int .i64) (v 8) l1) v w1);(iterate 2 intro (zq:v _=_));intro (q11:(fun v w'=>Q0q w' 0 3 (.int .i64) (v 11) l2) v w1);(iterate 2 intro (zq:v _=_));intro (q14:(fun v w'=>Q0q w' 0 3 (.int .i64) (v 14) l3) v w1) (q15:(fun v w'=>v 15=.agg #[.string nm,.int .i64 wt,v 8,v 11,v 14]) v w1) (q16:(fun v w'=>∃ g,v 16=.slice (some ⟨g,0,none⟩) 1 1 /\ Blk w' g 69 (Y4k (⟨nm,wt,l1,l2,l3⟩,v 8,v 11,v 14)).toArray) v w1);intro w2 hE;replace hE:(fun v w1 w'=>∃ x wm,Q0z wm wb.heap.size 69 5 Y4k x (qs ++ [(⟨nm,wt,l1,l2,l3⟩,v 8,v 11,v 14)]) /\ w1.grownBy wm xv.ownBlock /\ w'=wm.setCell ⟨O,2,none⟩ x) v w1 w2:=hE;simp only [Flow.acts,Act.put];go_simp;obtain ⟨x,wm,hom,hgm,rfl⟩:=hE;have hxx:=hdr.trans hx;have hbm:=Go.Tw.Q5l (HBK3.out.ext hxx) (HOW3.out.below hxx) (by omega) hgm
      have hof:=((HOF3.out.ext hxx (by omega)).grown (HOW3.out.below hxx) (by omega) (by omega) hgm).set 2 x
      have HO6:=hid (hom.X0g (p:=⟨O,2,none⟩) (by show O < wb.heap.size; omega) x)
      have HB6:=hid (hbm.set 2 x);have HOF6:=hid hof;have HU6:=hid (Q8a (u:=x) (k:=2) (Q3d (HU3.out.below hxx) (HOW3.out.below hxx) (by decide) hgm) hbm (by decide))
      have HM6:Hid (J0w (wm.setCell ⟨O,2,none⟩ x) (qs ++ [(⟨nm,wt,l1,l2,l3⟩,v 8,v 11,v 14)])):=hid (fun q hq=>by
       rcases List.mem_append.1 hq with hq | hq
       . exact (((HMR3.out q hq).ext hxx).grown (HOW3.out.below hxx) (by decide) hgm).set hbm (by decide)
       . rw [List.mem_singleton.1 hq]
         exact (Y0w.grown (q:=(⟨nm,wt,l1,l2,l3⟩,v 8,v 11,v 14)) ⟨q8,q11,q14⟩ (HOW3.out.below hxx) (by decide) hgm).set hbm (by decide))
      obtain ⟨w6,hw6⟩:∃ y,wm.setCell ⟨O,2,none⟩ x=y:=⟨_,rfl⟩;rw [hw6] at HO6 HB6 HOF6 HU6 HM6 ⊢;clear hw6 hom hgm hxx hx hbm hof hdr q8 q11 q14 q15 q16;(repeat clear zq);go_wp2;go_roundw
      case rel=>exact ⟨k + 1,x,qs ++ [(⟨nm,wt,l1,l2,l3⟩,v 8,v 11,v 14)],by omega,by go_num,HO6.out,by rw [List.map_append,HQS.out,HTK.out]; rfl,HM6.out,HU6.out,HB6.out,HOF6.out⟩
      case measure=>simp [intOf]; omega
   . have hkI:¬ (k:Int) < n:=by omega
     have hkn:k=n:=by omega
     have hall:s.members.take k=s.members:=by rw [List.take_of_length_le (by rw [HN.out]; omega)]
     rw [hall] at hqs;have hsm:∀ q ∈ qs,Short q.1.name /\ q.1.classes.length <= 1000 /\ q.1.outside.length <= 1000 /\ q.1.inflow.length <= 1000:=fun q hq=>by
      have hm:q.1 ∈ s.members:=by rw [<- hqs]; exact List.mem_map_of_mem hq
      obtain ⟨j,hj,he⟩:=List.getElem_of_mem hm;obtain ⟨_,_,_,_,_,_,_,_,_,_,_,_,_,_,_,hsn⟩:=HC.out j (by rw [<- HN.out]; exact hj)
      obtain ⟨-,h1,h2,h3⟩:=HS.out.each j hj;unfold Q1h at hsn;unfold Q0c at h1;unfold Q0t at h2;unfold Q0y at h3;rw [Q0v _ hj,he] at hsn h1 h2 h3;exact ⟨hsn,by omega,by omega,by omega⟩
     have HSM:=hid hsm;have hr:=HK1.out.below HOF.out.1 (by omega)
     have HRR:=hid hr;have HXR:=hid hxr;have HXO:=hid hqs;have HOWN:=hid hown;have HBO2:=hid hbo;obtain ⟨ax,cx,ex,-⟩:=hown.shape;have HQK:=hid hqk;have hone:∀ u ∈ (#[Value.int .i64 lim,uv,xv]:Array Value).toList,u.oneCell'=true:=by
      intro u hu;simp only [List.mem_cons,List.not_mem_nil,or_false] at hu
      rcases hu with rfl | rfl | rfl
      . rfl
      . rw [HEU.out]; rfl
      . rw [ex]; rfl
     have HONE:=hid hone;clear hown hqs hmr hu hbo hoff hxr hall hsm hone ex hqk;go_wp2_with (first | (refine Q7z rfl _ _ rfl Tryz.Z3u Tryz.X3r rfl HBO2.out rfl ?_) | (refine Q0s rfl _ _ 34 rfl Tryz.X3r rfl rfl hr rfl rfl HONE.out ?_; intro w9 hb9 hl9 ho9))
     refine bodyPost_ret (Q1v Tryz.results20 rfl hb9 Tryz.Z3u Tryz.X3r) rfl ?_;refine ⟨_,rfl,⟨_,_,by rw [<- HLIM.out],⟨?_,?_⟩⟩,Below.trans HXR.out (hl9 _ (by have:=HGS.out; omega))⟩
     . exact (Q6m HUU.out HRR.out (by decide) ho9).ints (by rw [HT.out]; omega)
     . have h:=Z3f (HOWN.out.only (g:=gs + 1) (by omega) ho9) (by rw [HQK.out]; omega) (fun q hq=>(HMR.out q hq).only HRR.out (by decide) ho9) HSM.out
       rw [HXO.out] at h;exact h
end Go.Proofs
namespace Go.Proofs
open Go.RowKit Go.Tw Go.Flow
def RL (w:World) (vs:List Value) (ll:List (List Int)):Prop:=vs.length=ll.length /\ ∀ j,j < ll.length -> Q0q w 0 3 (.int .i64) (vs.getD j undef) (ll.getD j [])
def LL (w:World) (B:Nat) (v:Value) (ll:List (List Int)):Prop:=∃ vs,Q0q w B 22 idV v vs /\ RL w vs ll
theorem RL.ext {w w':World} {vs:List Value} {ll:List (List Int)} (h:RL w vs ll) (hx:Ext w w'):RL w' vs ll:=⟨h.1,fun j hj=>(h.2 j hj).below hx⟩
theorem LL.ext {w w':World} {B:Nat} {v:Value} {ll:List (List Int)} (h:LL w B v ll) (hx:Ext w w'):LL w' B v ll:=let ⟨vs,h1,h2⟩:=h; ⟨vs,h1.below hx,h2.ext hx⟩
theorem LL.weaken {w:World} {B B':Nat} {v:Value} {ll:List (List Int)} (h:LL w B v ll) (hb:B' <= B):LL w B' v ll:=let ⟨vs,h1,h2⟩:=h; ⟨vs,h1.weaken hb,h2⟩
theorem LL.nil (w:World) (B:Nat):LL w B (.slice none 0 0) []:=⟨[],Q0q.nil _ _ _ _,rfl,fun j hj=>by simp at hj⟩
theorem Z4v {w:World} {v:Value} {l:List Int} (h:Q0q w 0 3 (.int .i64) v l):(idV v).oneCell'=true:=by
 obtain ⟨b,c,rfl,_⟩:=h.shape;rfl
theorem RL.one {w:World} {vs:List Value} {ll:List (List Int)} (h:RL w vs ll):∀ y ∈ vs,(idV y).oneCell'=true:=by
 intro y hy;obtain ⟨i,hi,rfl⟩:=List.getElem_of_mem hy;have h2:=h.2 i (by rw [<- h.1]; exact hi)
 rw [Q0v _ hi] at h2;exact Z4v h2
theorem RL.grown {w w':World} {vs:List Value} {ll:List (List Int)} {base n size:Nat} {cv:Value} {xs:List Value} {e:TypeId} (h:RL w vs ll) (hown:w.ownsRow base e size cv n xs) (he:e ≠ 3) (hg:w.grownBy w' cv.ownBlock):RL w' vs ll :=
 ⟨h.1,fun j hj=>Q3d (h.2 j hj) hown he hg⟩
theorem RL.reads {w:World} {vs:List Value} {ll:List (List Int)} (h:RL w vs ll) (hs:∀ j,j < ll.length -> (ll.getD j []).length <= 1000):Reads w vs ll:=⟨h.1,fun j hj=>(h.2 j hj).ints (by have:=hs j hj; omega)⟩
theorem LL.read {w:World} {B:Nat} {v:Value} {ll:List (List Int)} (h:LL w B v ll) (hl:ll.length <= 2000) (hs:∀ j,j < ll.length -> (ll.getD j []).length <= 1000):Q2z w v ll :=
 let ⟨_,h1,h2⟩:=h; h1.Z9a (h2.reads hs) (by omega)
def RuR (w:World) (qs:List (Value × Rul)):Prop:=∀ q ∈ qs,Q0q w 0 3 (.int .i64) q.1 q.2.classes
theorem RuR.ext {w w':World} {qs:List (Value × Rul)} (h:RuR w qs) (hx:Ext w w'):RuR w' qs:=fun q hq=>(h q hq).below hx
theorem RuR.set {w:World} {qs:List (Value × Rul)} {O k:Nat} {u:Value} {S:TypeId} {cs:Array Value} (h:RuR w qs) (hb:Blk w O S cs) (hT:S ≠ 3):RuR (w.setCell ⟨O,k,none⟩ u) qs:=fun q hq=>Q8a (h q hq) hb hT
theorem RuR.grown {w w':World} {qs:List (Value × Rul)} {base n size:Nat} {e:TypeId} {cv:Value} {xs:List Value} (h:RuR w qs) (hown:w.ownsRow base e size cv n xs) (he:e ≠ 3) (hg:w.grownBy w' cv.ownBlock):RuR w' qs:=fun q hq=>Q3d (h q hq) hown he hg
theorem RuR.snoc {w:World} {qs:List (Value × Rul)} {q:Value × Rul} (h:RuR w qs) (hq:Q0q w 0 3 (.int .i64) q.1 q.2.classes):RuR w (qs ++ [q]):=fun x hx=>by
 rcases List.mem_append.1 hx with hx | hx
 . exact h x hx
 . rw [List.mem_singleton.1 hx]; exact hq
theorem Z4q {w:World} {q:Value × Rul} (h:Q0q w 0 3 (.int .i64) q.1 q.2.classes):∀ u ∈ X8h q,u.oneCell'=true:=by
 obtain ⟨b,c,e,_⟩:=h.shape;intro u hu;simp only [X8h,List.mem_cons,List.not_mem_nil,or_false] at hu
 rcases hu with rfl | rfl
 . rw [e]; rfl
 . rfl
theorem X7y {w:World} {B:Nat} {T:TypeId} {v:Value} {qs:List (Value × Rul)} (h:Q0z w B T 2 X8h v qs) (hl:qs.length <= 100000) (hr:RuR w qs) (hs:∀ q ∈ qs,q.2.classes.length <= 4096):Q3m w v (qs.map (·.2)) :=
 X7w h hl (fun q hq=>(hr q hq).ints (by have:=hs q hq; omega)) (Ext.refl _)
def J2d (T:TypeId) (w w':World) (x:Value) (p:List Rul):Prop:=∃ vo qs,x=.agg #[vo] /\ Q0z w' w.heap.size T 2 X8h vo qs /\ qs.map (·.2)=p /\ RuR w' qs
theorem J2d.is {T:TypeId} {w w':World} {x:Value} {p:List Rul} (h:J2d T w w' x p) (hl:p.length <= 4096) (hs:∀ r ∈ p,r.classes.length <= 4096):Q0w w' x p:=by
 obtain ⟨vo,qs,rfl,ho,rfl,hr⟩:=h;exact ⟨vo,rfl,X7y ho (by rw [List.length_map] at hl; omega) hr fun q hq=>hs _ (List.mem_map_of_mem hq)⟩
theorem Tryz.Z9b:(Tryz.prog.info? 167).map (fun i=>(i.zero,i.size,i.bytes))=some (some (.agg #[.slice none 0 0,.bool false]),2,32):=by kernel_rfl
theorem Y4b (w:World) (a:Option Addr) (n c:Nat) (b:Bool):(Instr.build 167 #[(0,.slice a n c),(1,.bool b)]).run Tryz.prog w=.ok (.agg #[.slice a n c,.bool b]) w:=by kernel_rfl
theorem Z1r (w:World) (a:Option Addr) (n c:Nat) (b:Bool):(Instr.buildSlice 36 1 #[(0,.agg #[.slice a n c,.bool b])]).run Tryz.prog w=.ok (.slice (some ⟨w.heap.size,0,none⟩) 1 1) (w.alloc (.cells #[.slice a n c,.bool b] 167)):=by kernel_rfl
theorem Tryz.Z7u (w:World):(sizeOf 36).run Tryz.prog w=.ok 1 w:=by kernel_rfl
end Go.Proofs
