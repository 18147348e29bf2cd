/- Part of the proof of a law. -/
import Derived.Test.YthnobngcipaljaaGreatDoorPk02
import Derived.Deep.DeepCutAuto
import Derived.RangeFuncNested
import Derived.RangeFuncBound
import Derived.RangeFuncLeaves
import Derived.RangeFuncFrom
import Derived.Shelf.RegionOpen
import Derived.OwnWalkIn
import Derived.TacticsInMore
import Derived.LoopNIn
import Derived.LoopIn
import Derived.Maps.OwnSet
import Derived.MapKept
import Derived.Laws.BytesArg
set_option maxRecDepth 1000000
set_option maxHeartbeats 64000000
set_option linter.unusedVariables false
set_option linter.unusedSimpArgs false
set_option linter.constructorNameAsVariable false
open Go.Lib (hid)
namespace Go.Proofs
open Go.RowKit Go.Tw Go.Flow Tryz
theorem fzg03 {u:Type} {a b:u} (h:a=b:=by rw [hbb]; dsimp only; (try simp (discharger:=decide) only [Flow.eval_put_ne]); rw [Flow.Q0a (by (try simp only [Flow.size_put]); exact of_decide_eq_true rfl)]; try assumption):a=b:=h
theorem Z0k (w:World) (v:Value) (l:List Int) (g:Nat) (c:Value) (p:Int -> Bool) (hv:Q0g w v l) (eg:∀ args w,(callFunc g args).run prog w=.ok (.enter g args) w)
    (hp:∀ W x,Ext w W -> x ∈ l -> Calls prog g #[.int .i64 x,c] W fun e W'=>e=.returned (.bool (p x)) /\ Ext W W') :
    Calls prog 176 #[v,.func (.func g) #[] #[c]] w fun e w'=>∃ r:Int,e=.returned (.int .i64 r) /\ decide (0 <= r)=l.any p /\ Ext w w':=by
 obtain ⟨A,Qq,rfl,hl,Kq,hc⟩:=hv.opened;have HP:=hid hp;have HC:=hid hc;clear hv hp hc;go_enter func176,ntmps176;go_wp2
 go_loopw [8] (fun i wr=>∃ k:Nat,k <= l.length /\ i=.int .i64 k /\ (l.drop k).any p=l.any p /\ Ext w wr) (fun i _=>l.length - (intOf i).toNat)
 case atStart=>exact ⟨0,Nat.zero_le _,rfl,rfl,Ext.refl _⟩
 case round =>
  obtain ⟨k,hk,rfl,hr,hx⟩:=hrel;have HR:=hid hr; clear hr
  by_cases Uq:k < l.length
  . obtain ⟨b,off,rfl,Wq⟩:=HC.out k Uq
    replace Wq:=hx.cell Wq;have pq:ix l k ∈ l:=by rw [Q5g Uq]; exact List.getElem_mem Uq
    have hd:=Q3j Uq;have Sj:Hid (l.any p=(p (ix l k) || (l.drop (k + 1)).any p)):=hid (by rw [<- HR.out,hd,List.any_cons])
    obtain ⟨y,hy⟩:∃ y,ix l k=y:=⟨_,rfl⟩;have Dz:=hid (HP.out wr (ix l k) hx pq);rw [hy] at Dz Wq Sj;obtain ⟨q,hq⟩:∃ q,p y=q:=⟨_,rfl⟩;rw [hq] at Dz Sj;clear hq hy hd pq;cases q with
    | true =>
      go_wp2_with (refine Dz.out.mono ?_; rintro e w9 ⟨rfl,sj⟩);go_ret;exact ⟨k,rfl,by rw [Sj.out]; simp,hx.trans sj⟩
    | false =>
      go_wp2_with (refine Dz.out.mono ?_; rintro e w9 ⟨rfl,sj⟩);go_roundw
      case rel=>exact ⟨k + 1,by omega,by go_num,by rw [Sj.out,Bool.false_or],hx.trans sj⟩
      case measure=>simp [intOf]; omega
  . go_wp2
    go_ret;exact ⟨-1,rfl,by rw [<- HR.out,List.drop_eq_nil_of_le (by omega)]; rfl,hx⟩
theorem Y1w (w:World) (v:Value) (l:List Int) (g:Nat) (c:Value) (p:Int -> Bool) (hv:Q0g w v l) (eg:∀ args w,(callFunc g args).run prog w=.ok (.enter g args) w)
    (hp:∀ W x,Ext w W -> x ∈ l -> Calls prog g #[.int .i64 x,c] W fun e W'=>e=.returned (.bool (p x)) /\ Ext W W') :
    Calls prog 138 #[v,.func (.func g) #[] #[c]] w fun e w'=>e=.returned (.bool (l.any p)) /\ Ext w w':=by
 have HI:=hid (Z0k w v l g c p hv eg hp);obtain ⟨A,Qq,rfl,hl,Kq,hc⟩:=hv.opened;obtain ⟨q,hq⟩:∃ q,l.any p=q:=⟨_,rfl⟩;rw [hq] at HI ⊢;clear hv hc hp hq;go_enter func138,ntmps138;go_wp2_with (go_at_call 176; refine HI.out.mono ?_; rintro e w' ⟨r,rfl,hr,hx⟩; have HR:=hid hr; clear hr);go_ret;exact ⟨Q1b HR.out,hx⟩
def X2i (w:World) (v:Value) (m:Mem):Prop:=∃ x y z,v=.agg #[.string m.name,.int .i64 m.weight,x,y,z] /\ Q0g w x m.classes /\ Q0g w y m.outside /\ Q0g w z m.inflow
theorem X2i.ext {w w':World} {v:Value} {m:Mem} (h:X2i w v m) (hx:Ext w w'):X2i w' v m:=let ⟨x,y,z,e,h1,h2,h3⟩:=h; ⟨x,y,z,e,h1.ext hx,h2.ext hx,h3.ext hx⟩
structure OkM (m:Mem) (n:Nat):Prop where
 out:n <= m.outside.length
 inf:n <= m.inflow.length
 bd:∀ k,k < m.inflow.length -> 0 <= ix m.inflow k /\ ix m.inflow k <= 1024
theorem Y7p (w:World) (v:Value) (m:Mem) (t:Nat) (n:Int) (c:Bool) (hv:X2i w v m) (ho:t < m.outside.length) (hi:t < m.inflow.length) (hn:0 <= n /\ n <= 100000) (hb:0 <= ix m.inflow t /\ ix m.inflow t <= 1024) :
    Calls prog 173 #[v,.int .i64 (t:Int),.int .i64 n,.bool c] w fun e w'=>e=.returned (.tuple #[.int .i64 (m.stepT t n c).1,.int .i64 (m.stepT t n c).2]) /\ Ext w w':=by
 obtain ⟨x,y,z,rfl,hx,hy,hz⟩:=hv;obtain ⟨X,Sq,rfl,-,-,-⟩:=hx.opened;obtain ⟨Y,Jq,rfl,-,-,ze⟩:=hy.opened;obtain ⟨Z,Cq,rfl,-,-,ye⟩:=hz.opened;obtain ⟨by',oy,rfl,xe⟩:=ze t ho
 obtain ⟨bz,oz,rfl,CG⟩:=ye t hi;have Bq:=Ext.box w (.cells #[.string m.name,.int .i64 m.weight,.slice X m.classes.length Sq,.slice (some ⟨by',oy,none⟩) m.outside.length Jq,.slice (some ⟨bz,oz,none⟩) m.inflow.length Cq] 69)
 have K0:=Blk.made w 69 #[.string m.name,.int .i64 m.weight,.slice X m.classes.length Sq,.slice (some ⟨by',oy,none⟩) m.outside.length Jq,.slice (some ⟨bz,oz,none⟩) m.inflow.length Cq]
 have c0:=(K0).cell 0;have c1:=(K0).cell 1;have c2:=(K0).cell 2;have c3:=(K0).cell 3;have c4:=(K0).cell 4;simp only [Go.Tw.gA,Go.Tw.gB,Go.Tw.gC] at c0 c1 c2 c3 c4;replace xe:=Bq.cell xe;replace CG:=Bq.cell CG;have Zr:(t:Int) < m.outside.length:=by omega
 have rJ:(t:Int) < m.inflow.length:=by omega
 clear hx hy hz ze ye K0;cases c with
 | true =>
   have HS:Hid (m.stepT t n true=(n + ix m.inflow t,n + ix m.inflow t)):=hid rfl;have Aw:IntKind.i64.wrap (n + ix m.inflow t)=n + ix m.inflow t:=Q2j _ (by omega) (by omega)
   rw [HS.out];obtain ⟨d,hd⟩:∃ d,ix m.inflow t=d:=⟨_,rfl⟩;rw [hd] at CG Aw ⊢;clear hd hb;go_enter func173,ntmps173;go_wp2;go_ret2;exact ⟨rfl,Bq⟩
 | false =>
   have HS:Hid (m.stepT t n false=(ix m.outside t,0)):=hid rfl;rw [HS.out];clear hb;go_enter func173,ntmps173;go_wp2;go_ret2;exact ⟨rfl,Bq⟩
theorem Z4a {m:Mem} {t:Nat} {n:Int} {c:Bool} {k:Nat} (hn:0 <= n /\ n <= 1024 * k) (hb:0 <= ix m.inflow t /\ ix m.inflow t <= 1024):0 <= (m.stepT t n c).2 /\ (m.stepT t n c).2 <= 1024 * ((k + 1:Nat):Int):=by
 unfold Mem.stepT;cases c with
 | true=>simp only [if_true]; omega
 | false=>simp only [Bool.false_eq_true,if_false]; omega
theorem X0o (w:World) (v u:Value) (m:Mem) (l:List Bool) (hv:X2i w v m) (hu:Q1v w u l) (Wj:l.length <= 9) (hm:OkM m l.length) :
    Calls prog 127 #[v,u] w fun e w'=>∃ x,e=.returned x /\ Q0g w' x (m.Q2a l) /\ Ext w w':=by
 obtain ⟨i0,hi,dq,fq,Zj⟩:=info_parts info3;have HV:=hid hv;obtain ⟨x,y,z,rfl,hx,hy,hz⟩:=hv;obtain ⟨X,Sq,rfl,-,-,-⟩:=hx.opened;obtain ⟨Y,Jq,rfl,-,-,-⟩:=hy.opened;obtain ⟨Z,Cq,rfl,-,-,-⟩:=hz.opened;obtain ⟨U,py,rfl,-,-,ve⟩:=hu.opened;have m9:=hid ve;have HM:=hid hm;clear hx hy hz ve hu hm;go_enter func127,ntmps127;go_wp2_with fail;change Code.wp _ _ _ _ (w.alloc (.cells #[.string m.name,.int .i64 m.weight,.slice X m.classes.length Sq,.slice Y m.outside.length Jq,.slice Z m.inflow.length Cq] 69));obtain ⟨W,Mq,k0,Rq,eW⟩:=Q2q w 69 #[.string m.name,.int .i64 m.weight,.slice X m.classes.length Sq,.slice Y m.outside.length Jq,.slice Z m.inflow.length Cq];rw [Mq];clear Mq;have K0:=hid k0;clear k0
 go_loopw [5,6,13] (fun o lv t wr=>∃ (k:Nat) (n:Int) (pk:List Int),k <= l.length /\ t=.int .i64 k /\ lv=.int .i64 n /\ (0 <= n /\ n <= 1024 * k) /\ pk.length=k /\ pk ++ m.Q2o k n (l.drop k)=m.Q2a l /\ Q0q wr W.heap.size 3 (.int .i64) o pk /\ Ext W wr) (fun _ _ t _=>l.length - (intOf t).toNat)
 case atStart=>exact ⟨0,0,[],Nat.zero_le _,rfl,rfl,⟨Int.le_refl _,by omega⟩,rfl,rfl,Q0q.nil _ _ _ _,Ext.refl _⟩
 case round =>
  obtain ⟨k,n,pk,hk,rfl,rfl,hn,jx,hr,Yq,hx⟩:=hrel;have HR:=hid hr;have HN:=hid hn;have Jj:=hid jx;clear hr
  by_cases Uq:k < l.length
  . obtain ⟨bu,ou,rfl,-,Ag⟩:=m9.out k Uq
    replace Ag:=(Rq.out.trans hx).cell Ag;have tj:=Y2m m l Uq n;have Sk:=HM.out.bd k (by have:=HM.out.inf; omega)
    have R1:=hid (Z4a (c:=bx l k) hn Sk);have Z4:=hid (fun wr (hx:Ext w wr)=>Y7p wr _ m k n (bx l k) (HV.out.ext hx) (by have:=HM.out.out; omega) (by have:=HM.out.inf; omega) ⟨hn.1,by omega⟩ Sk)
    obtain ⟨c,hc⟩:∃ c,bx l k=c:=⟨_,rfl⟩;rw [hc] at Ag tj R1 Z4;obtain ⟨P,hP⟩:∃ P,(m.stepT k n c).1=P:=⟨_,rfl⟩;obtain ⟨Q,hQ⟩:∃ Q,(m.stepT k n c).2=Q:=⟨_,rfl⟩;rw [hP,hQ] at tj Z4;rw [hQ] at R1;have Sj:=hid tj;have c0:=(K0.out.ext hx).cell 0;have c1:=(K0.out.ext hx).cell 1;have c2:=(K0.out.ext hx).cell 2;have c3:=(K0.out.ext hx).cell 3;have c4:=(K0.out.ext hx).cell 4;simp only [Go.Tw.gA,Go.Tw.gB,Go.Tw.gC] at c0 c1 c2 c3 c4;have zj:(k:Int) < l.length:=by omega
    have kx:=hid hx;have kq:=hid Yq;have Bw:pk.length <= 4096:=by omega
    clear tj hP hQ hc hn Sk Yq jx hx
    go_light
    go_wp2_with (first | (go_at_call 173; refine (Z4.out _ (Rq.out.trans kx.out)).mono ?_; rintro e w5 ⟨rfl,yq⟩; have Yq:=kq.out.below yq; have Mj:=kx.out.trans yq) | (at_builtin; refine wpList_append_own _ rfl _ _ 22 rfl (W.heap.size) 3 i0 (.int .i64 0) 1 8 underlying22 hi dq fq Zj rfl (by decide) _ _ _ rfl (World.ownsRow.alloc Yq _) ⟨w5.heap.size,0,none⟩ 1 1 [.int .i64 P] rfl rfl ?_ ?_ ?_ ?_ ?_ ?_; exact Q5y _ _ _; (focus (simp [Value.oneCell'])); (focus (unfold maxLen; omega)); (focus omega); (focus (have:=Mj.size; simp at this ⊢; omega)); intro v' w1 Oq Pq _))
    have Nq:=Q3r Mj Yq (Nat.le_refl _) Pq;go_roundw
    case rel=>exact ⟨k + 1,Q,pk ++ [P],by omega,by go_num,rfl,R1.out,by rw [List.length_append,Jj.out]; rfl,by rw [<- HR.out,Sj.out]; simp,Q0q.snoc Oq,Nq⟩
    case measure=>simp [intOf]; omega
  . have HF:Hid (pk=m.Q2a l):=hid (by rw [<- HR.out,List.drop_eq_nil_of_le (by omega)]; simp [Mem.Q2o])
    go_wp2;go_ret;exact ⟨_,rfl,by rw [<- HF.out]; exact Yq.ints (by omega),Rq.out.trans hx⟩
theorem Z1j (W:World) (x lim:Int) (B:Nat) (hB:W.cell? ⟨B,0,none⟩=some (.int .i64 lim)) :
    Calls prog 171 #[.int .i64 x,.pointer (some ⟨B,0,none⟩)] W fun e W'=>e=.returned (.bool (decide (lim < x))) /\ Ext W W':=by
 go_enter func171,ntmps171;go_wp2;go_ret;exact ⟨rfl,Ext.refl _⟩
theorem X0v (w:World) (v u:Value) (m:Mem) (lim:Int) (l:List Bool) (hv:X2i w v m) (hu:Q1v w u l) (Wj:l.length <= 9) (hm:OkM m l.length) :
    Calls prog 113 #[v,.int .i64 lim,u] w fun e w'=>e=.returned (.bool (m.keeps lim l)) /\ Ext w w':=by
 have HV:=hid hv;obtain ⟨x,y,z,rfl,hx,hy,hz⟩:=hv;obtain ⟨X,Sq,rfl,-,-,-⟩:=hx.opened;obtain ⟨Y,Jq,rfl,-,-,-⟩:=hy.opened;obtain ⟨Z,Cq,rfl,-,-,-⟩:=hz.opened;have HU:=hid hu;obtain ⟨U,py,rfl,-,-,-⟩:=hu.opened;have HM:=hid hm;have Kk:Hid (m.keeps lim l = !((m.Q2a l).any fun x=>decide (lim < x))):=hid rfl;have Rk:=hid (Q7l m l);clear hx hy hz hu hm;go_enter func113,ntmps113;go_wp2_with fail;change Calls _ _ _ ((w.alloc (.cells #[.string m.name,.int .i64 m.weight,.slice X m.classes.length Sq,.slice Y m.outside.length Jq,.slice Z m.inflow.length Cq] 69)).alloc (.cells #[.int .i64 lim] 3)) _;obtain ⟨W,Mq,k0,k1,Rq,eW⟩:=Q4p w 69 #[.string m.name,.int .i64 m.weight,.slice X m.classes.length Sq,.slice Y m.outside.length Jq,.slice Z m.inflow.length Cq] 3 #[.int .i64 lim];rw [Mq];clear Mq;have K1:=hid k1;clear k0 k1;refine (X0o _ _ _ m l (HV.out.ext Rq.out) (HU.out.ext Rq.out) Wj HM.out).mono ?_;rintro e w5 ⟨pv,rfl,hp,yq⟩;have ZZ:=hid (Y1w w5 pv (m.Q2a l) 171 (.pointer (some ⟨w.heap.size + 1,0,none⟩)) (fun x=>decide (lim < x)) hp (enters_of func171 (by kernel_rfl) rfl) (fun W' x hx _=>Z1j W' x lim _ ((K1.out.ext (yq.trans hx)).cell 0)))
 obtain ⟨q,hq⟩:∃ q,((m.Q2a l).any fun x=>decide (lim < x))=q:=⟨_,rfl⟩
 rw [hq] at ZZ Kk;obtain ⟨P,Ml,rfl,-,-,-⟩:=hp.opened;have vq:=hid (Rq.out.trans yq);clear hp yq hq;go_wp2_with (go_at_call 138; refine ZZ.out.mono ?_; rintro e w6 ⟨rfl,Mj⟩);go_ret;exact ⟨Q1b Kk.out.symm,vq.out.trans Mj⟩
end Go.Proofs
namespace Go.Tw
theorem Y9i {l:List (List Int)} (h:Asc l):l.Nodup:=h.imp fun h e=>by subst e; exact Q7s _ h
theorem Q1n {h:List (List Int)} {p:List Rul}:Q0x h p=0 ↔ p.map Rul.classes=h:=by
 unfold Q0x
 constructor
 . intro e
   split at e
   . cases e
   . split at e
     . cases e
     . rename_i h2; exact Decidable.not_not.1 h2
 . intro e
   have hl:p.length=h.length:=by rw [<- e,List.length_map]
   rw [if_neg (fun hn=>hn hl),if_neg (fun hn=>hn e)]
end Go.Tw
namespace Go.Proofs
open Go.RowKit Go.Tw Go.Flow
attribute [local go_sem] Oper.semAt_some
theorem Q9n {w:World} {A:Option Addr} {n Qq:Nat} {l:List Int} (h:Q0g w (.slice A n Qq) l) {k:Nat} (hk:k <= l.length):Q0g w (.slice A k Qq) (l.take k):=by
 obtain ⟨c,⟨A',cap',hv,hn,Kq,hc⟩,h2⟩:=h;injection hv with e1 e2 e3;subst e1 e2 e3;have dg:(l.take k).length=k:=by rw [List.length_take]; omega
 refine ⟨c,⟨A,Qq,by rw [dg],by omega,by omega,fun j hj=>hc j (by omega)⟩,fun j hj=>?_⟩
 rw [List.getElem_take];exact h2 j (by omega)
theorem Tryz.Y4m:(Tryz.prog.info? 4).map (fun i=>(i.zero,i.size,i.bytes))=some (some (.bool false),1,1):=by kernel_rfl
end Go.Proofs
namespace Go.Proofs
open Go.RowKit Go.Tw Go.Flow Tryz
theorem Z5g (h:List Int) (row:List (List Int)):(Q7d h row).length <= row.length + 1:=by
 unfold Q7d;have hb:=(posB h row row.length).1;dsimp only
 split
 . omega
 . rw [List.length_append,List.length_append,List.length_take,List.length_drop,List.length_singleton]
   omega
theorem X3g (s:Q0b) (t:Nat):∀ i,(s.Q5v t i).length <= i
 | 0=>by simp [Q0b.Q5v]
 | i + 1=>by
   have:=X3g s t i;have:=Z5g ((Q0c s.members i).take (t + 1)) (s.Q5v t i);unfold Q0b.Q5v;omega
theorem X5t (s:Q0b):∀ n,(s.Q5t n).length <= n * s.members.length
 | 0=>by simp [Q0b.Q5t]
 | n + 1=>by
   have:=X5t s n;have:=X3g s n s.members.length;unfold Q0b.Q5t;rw [List.length_append,Nat.add_mul,Nat.one_mul];omega
theorem Q7o {s:Q0b} (hS:Q0r s):s.hist.length <= 48:=by
 have:=X5t s s.ships.length;have h2:s.ships.length * s.members.length <= 6 * 8:=Nat.mul_le_mul hS.tides.2 hS.some.2;unfold Q0b.hist;omega
theorem J5g {s:Q0b} (hS:Q0r s) {p:List Rul} (hp:Q0x s.hist p=0):p.length <= 48:=by
 have:=Q7o hS;rw [<- Q1n.1 hp,List.length_map] at this;exact this
theorem Tryz.X3o (w:World):(isAgg 25).run prog w=.ok true w:=by kernel_rfl
theorem Tryz.Q8g (w:World):(sizeOf 25).run prog w=.ok 3 w:=by kernel_rfl
theorem Tryz.X7c (w:World):(isAgg 47).run prog w=.ok true w:=by kernel_rfl
theorem Tryz.Q9i (w:World):(sizeOf 47).run prog w=.ok 1 w:=by kernel_rfl
theorem X7m (w:World) (a b:Option Addr) (n c m d:Nat):(Instr.build 99 #[(0,.slice a n c),(1,.slice b m d)]).run prog w=.ok (.agg #[.slice a n c,.slice b m d]) w:=by kernel_rfl
attribute [local go_sem ↓] X7m
end Go.Proofs
namespace Go.Tw
open Go.RowKit Go.Flow
def Off (O:Nat) (w w':World):Prop:=Below O w w' /\ w.heap.size <= w'.heap.size /\ ∀ b,b < w.heap.size -> b ≠ O -> w'.heap[b]?=w.heap[b]?
theorem Off.refl (O:Nat) (w:World):Off O w w:=⟨Below.refl _ _,Nat.le_refl _,fun _ _ _=>rfl⟩
theorem Off.ext {O:Nat} {a b c:World} (h:Off O a b) (hx:Ext b c) (hO:O <= b.heap.size):Off O a c :=
 ⟨h.1.trans (hx.mono hO),Nat.le_trans h.2.1 hx.size,fun k hk hne=>(Below.block hx k (Nat.lt_of_lt_of_le hk h.2.1)).trans (h.2.2 k hk hne)⟩
theorem Off.grown {O base n size:Nat} {e:TypeId} {v:Value} {xs:List Value} {a b c:World} (h:Off O a b) (Yq:b.ownsRow base e size v n xs) (hb:a.heap.size <= base) (hO:O <= a.heap.size) (hg:b.grownBy c v.ownBlock):Off O a c:=by
 have ej:Below O b c:=Below.grown (Below.refl _ _) hg (Nat.le_trans hO h.2.1) (fun k hk=>by have:=(Yq.lt k hk).1; omega)
 have N8:Below a.heap.size b c:=Below.grown (Below.refl _ _) hg h.2.1 (fun k hk=>by have:=(Yq.lt k hk).1; omega)
 exact ⟨h.1.trans ej,Nat.le_trans h.2.1 N8.size,fun k hk hne=>(N8.block k hk).trans (h.2.2 k hk hne)⟩
theorem Off.set {O:Nat} {a b:World} (h:Off O a b) (k:Nat) (u:Value):Off O a (b.setCell ⟨O,k,none⟩ u) :=
 ⟨h.1.setCell (p:=⟨O,k,none⟩) (Nat.le_refl _) u,by simpa using h.2.1,fun j hj hne=>(Below.heap_setCell _ _ _ _ hne).trans (h.2.2 j hj hne)⟩
theorem Q1d.off {α:Type} {w w':World} {base O k:Nat} {e:TypeId} {enc:α -> List Value} {v:Value} {l:List α} (h:Q1d w base e k enc v l) (hO:O < base) (hx:Off O w w'):Q1d w' base e k enc v l:=by
 obtain ⟨h1,h2⟩:=h;refine ⟨h1,?_⟩
 rcases h2 with h2 | ⟨g,Qq,cur,hv,hb,hg,r⟩
 . exact .inl h2
 . exact .inr ⟨g,Qq,cur,hv,hb,by rw [hx.2.2 g (Array.getElem?_eq_some_iff.1 hg).1 (by omega)]; exact hg,r⟩
theorem Q1d.setCell {α:Type} {w:World} {base k:Nat} {e:TypeId} {enc:α -> List Value} {v:Value} {l:List α} (h:Q1d w base e k enc v l) {p:Addr} (hp:p.block < base) (u:Value):Q1d (w.setCell p u) base e k enc v l :=
 h.only hp (Q3u w p u)
theorem Q4e {w w':World} {v cv:Value} {l:List Int} {base n size:Nat} {T e:TypeId} {xs:List Value} (h:Q0q w 0 T (Value.int .i64) v l) (Yq:w.ownsRow base e size cv n xs) (he:e ≠ T) (hg:w.grownBy w' cv.ownBlock):Q0q w' 0 T (Value.int .i64) v l:=by
 obtain ⟨h1,h2⟩:=h;refine ⟨h1,?_⟩
 rcases h2 with h2 | ⟨g,Qq,cur,hv,hb,Bj,r⟩
 . exact .inl h2
 . refine .inr ⟨g,Qq,cur,hv,hb,?_,r⟩
   rw [hg.block g (Array.getElem?_eq_some_iff.1 Bj).1 ?_]; exact Bj;intro e'
   rcases Yq.2 with ⟨rfl,_⟩ | ⟨g',_,cur',rfl,_,sk,_⟩
   . cases e'
   . have e2:g=g':=by simpa [Value.ownBlock] using e'
     rw [e2,sk] at Bj;injection Bj with Bj;injection Bj with _ h3 _;exact he h3
theorem Q5f {w w':World} {cv:Value} {base n size g:Nat} {T e:TypeId} {cs:Array Value} {xs:List Value} (h:Blk w g T cs) (Yq:w.ownsRow base e size cv n xs) (hb:g < base) (hg:w.grownBy w' cv.ownBlock):Blk w' g T cs:=by
 unfold Blk at *;rw [hg.block g (Array.getElem?_eq_some_iff.1 h).1 ?_]; exact h;intro e';have:=(Yq.lt g e'.symm).1;omega
theorem Q7g {w:World} {v u:Value} {l:List Int} {O k:Nat} {T S:TypeId} {cs:Array Value} (h:Q0q w 0 T (Value.int .i64) v l) (hb:Blk w O S cs) (hT:S ≠ T):Q0q (w.setCell ⟨O,k,none⟩ u) 0 T (Value.int .i64) v l:=by
 obtain ⟨h1,h2⟩:=h;refine ⟨h1,?_⟩
 rcases h2 with h2 | ⟨g,Qq,cur,hv,hbb,Bj,r⟩
 . exact .inl h2
 . refine .inr ⟨g,Qq,cur,hv,hbb,?_,r⟩
   rw [Below.heap_setCell _ _ _ _ ?_]; exact Bj;intro e';have e2:g=O:=e';unfold Blk at hb;rw [e2,hb] at Bj;injection Bj with Bj;injection Bj with _ h3 _;exact hT h3
theorem Q1d.rowsOf {α β:Type} {w:World} {base:Nat} {e:TypeId} {k:Nat} {enc:α -> List Value} {v:Value} {L:List α} {l:List β} {R:World -> (Nat -> Value) -> β -> Prop} (h:Q1d w base e k enc v L) (Dq:L.length=l.length) (hl:l.length <= 17592186043904)
    (hk:∀ x,(enc x).length=k) (hR:∀ j (h1:j < L.length) (h2:j < l.length),R w (fun i=>((enc L[j])[i]?).getD undef) l[j]) (Fg:∀ c c' x,(∀ i,i < k -> c i=c' i) -> R w c x -> R w c' x):Go.Tw.Rows k R w v l:=by
 refine ⟨fun j=>((L.flatMap enc)[j]?).getD undef,?_,fun j hj=>Fg _ _ _ (fun i hi=>?_) (hR j (by omega) hj)⟩
 . obtain ⟨_,h2⟩:=h
   rw [Dq] at h2
   rcases h2 with ⟨rfl,h0⟩ | ⟨g,Qq,cur,rfl,_,hg,Kq,_,_,nx⟩
   . exact ⟨none,0,by rw [h0],hl,by omega,fun j hj=>by rw [h0,Nat.zero_mul] at hj; omega⟩
   . refine ⟨some ⟨g,0,none⟩,Qq,rfl,hl,Kq,fun j hj=>⟨g,0,rfl,?_⟩⟩
     rw [Nat.zero_add];have h1:=congrArg (fun l=>l[j]?) nx;simp only [List.getElem?_take,hj,if_true] at h1;have Uq:j < (L.flatMap enc).length:=by rw [Q4c hk,Dq]; exact hj
     rw [List.getElem?_eq_getElem Uq] at h1;simp only [World.cell?,hg,List.getElem?_eq_getElem Uq,Option.getD_some]
     simpa using h1
 . show ((enc L[j])[i]?).getD undef=((L.flatMap enc)[j * k + i]?).getD undef
   rw [flat_get hk L j i (by omega) hi]
theorem Q2y {α:Type} {P:Program} {K:Value -> World -> Prop} {o:Oper} {a:Act} {w:World} (s x:Operand) (t:TypeId) (ho:o.op=.call { callee:=.builtin .append,args:=#[s,x],argTypes:=#[t,t] })
    (base:Nat) (e:TypeId) (i:TypeInfo) (z:Value) (k bytes:Nat) (ht:P.underlying t=some (.slice e)) (hi:P.info? e=some i) (hz:i.zero=some z) (yx:i.size=k) (Cg:i.bytes=bytes) (Dw:z.cells.size=k) (Ak:0 < k)
    (enc:α -> List Value) (hk:∀ x,(enc x).length=k) (v:Value) (xs:List α) (y:α) (hs:a.eval s=v) (Yq:Q1d w base e k enc v xs) (ad:Addr) (c:Nat) (hx:a.eval x=.slice (some ad) 1 c)
    (Xj:∀ j u,(enc y)[j]?=some u -> w.cell? (ad.add j)=some u) (h1:∀ u ∈ enc y,u.oneCell'=true)
    (o0:xs.length + 1 <= 100000) (hb:bytes <= 1000) (Sz:base <= w.heap.size)
    (h:∀ v' w',Q1d w' base e k enc v' (xs ++ [y]) -> w.grownBy w' v.ownBlock -> K v' w'):gives P K ((execOp a.eval o).run P w):=by
 obtain ⟨v',w',hr,h2,h3,h4⟩:=run_append_own (P:=P) w base t o.type e i z k bytes ht hi hz yx Cg Dw Ak v xs.length (xs.flatMap enc) Yq ad 1 c (enc y) (by rw [hk]; omega) Xj h1 (by unfold maxLen; omega) (by
     have:(xs.length + 1) * bytes <= 100000 * 1000:=Nat.mul_le_mul o0 hb;omega) Sz
 unfold execOp;simp only [ho,resolve,invoke,builtin,Sem.run_bind,Sem.run_pure,Result.andThen_ok,List.map_toArray,List.map_cons,List.map_nil,hs,hx,hr];exact h v' w' (Q1d.snoc h2) h3
theorem Q6d {w:World} {g:Nat} {T:TypeId} {xs:List Value} (h:Blk w g T xs.toArray):∀ j u,xs[j]?=some u -> w.cell? ((⟨g,0,none⟩:Addr).add j)=some u:=by
 intro j u hu;rw [addr_add,Nat.zero_add,h.cell]
 simpa using hu
end Go.Tw
namespace Go.Proofs
open Go.RowKit Go.Tw Go.Flow
theorem Q0k {P:Program} {K:Value -> World -> Prop} {o:Oper} {a:Act} {w:World} (p:Operand) (T:TypeId) (ho:o.op=.load T p) (hA:∀ w,(isAgg T).run P w=.ok true w) {n:Nat} (hS:∀ w,(sizeOf T).run P w=.ok n w)
    {g:Nat} (hp:a.eval p=.pointer (some ⟨g,0,none⟩)) {BT:TypeId} {cs:Array Value} (hb:Blk w g BT cs) (hn:cs.size=n) (h:K (.agg cs) w):gives P K ((execOp a.eval o).run P w):=by
 subst hn;unfold execOp;simp only [ho,hp,Instr.loadAt,Instr.sureAddr,Sem.run_bind,Sem.run_pure,Result.andThen_ok,Q4j hb hA hS];exact h
theorem Q1q {P:Program} {K:Value -> World -> Prop} {o:Oper} {a:Act} {w:World} (p x:Operand) (T:TypeId) (ho:o.op=.store T p x)
    {n:Nat} (hS:∀ w,(sizeOf T).run P w=.ok n w) {g:Nat} (hp:a.eval p=.pointer (some ⟨g,0,none⟩)) {BT:TypeId} {cs vs:Array Value} (hx:a.eval x=.agg vs) (hb:Blk w g BT cs) (hn:cs.size=n) (hv:vs.size=n) (h1:∀ u ∈ vs.toList,u.oneCell'=true)
    (h:∀ v w',Blk w' g BT vs -> (∀ n,n <= g -> Below n w w') -> (∀ k,k ≠ g -> w'.heap[k]?=w.heap[k]?) -> K v w'):gives P K ((execOp a.eval o).run P w):=by
 obtain ⟨w',hr,Mk,hl,Y4⟩:=X0l (P:=P) vs.toList 0 w cs hb h1 (by simp [hn,hv])
 have hs:(storeVar T ⟨g,0,none⟩ (.agg vs)).run P w=.ok () w':=by
  have hc:(Value.agg vs).cells=vs:=rfl;unfold storeVar;simp only [Sem.run_bind,hS,Result.andThen_ok];rw [if_neg (by rw [hc]; simp [hv])]
  exact hr
 have Ck:(execOp a.eval o).run P w=.ok .skip w':=by
  unfold execOp;simp only [ho,hp,hx,Instr.storeAt,Instr.sureAddr,Sem.run_bind,Sem.run_pure,Result.andThen_ok,hs]
 rw [Ck];exact h _ _ (by simpa using Mk) hl Y4
theorem Q2i {P:Program} {w:World} {ops:Array Oper} {rest:List Oper} {o:Oper} {a:Act} {Q:Exit -> Act -> World -> Prop} (hg:o.guard=none)
    (h:gives P (fun u w'=>wpList P ops Q rest (a.put o.dst u) w') ((execOp a.eval o).run P w)):wpList P ops Q (o :: rest) a w :=
 wpList_plain hg fun K' B3=>by
  unfold Oper.wp;exact Q2z (Q5d (fun _ _ hk=>B3 _ _ hk) h)
theorem Z5x {K:Value -> World -> Prop} {o:Oper} {a:Act} {w:World} (x:Operand) (t e:TypeId) (ho:o.op=.makeSlice t x x) (i:TypeInfo) (z:Value) (k bytes:Nat) (ht:Tryz.prog.underlying t=some (.slice e)) (hi:Tryz.prog.info? e=some i) (hz:i.zero=some z) (hs:i.size=k) (Cg:i.bytes=bytes)
    (n:Nat) (hx:a.eval x=.int .i64 n) (hn:n <= 1000) (hb:bytes <= 1000)
    (h:K (.slice (some ⟨w.heap.size,0,none⟩) n n) (w.alloc (.cells (madeCells z.cells (n * k)) e))):gives Tryz.prog K ((execOp a.eval o).run Tryz.prog w):=by
 have hnb:bytes * n <= 1000 * 1000:=Nat.mul_le_mul hb hn;have hr:=run_make (P:=Tryz.prog) w t e i z ht hi hz .i64 .i64 n n (by omega) (Int.le_refl _) (by rw [Cg]; have:((bytes * n:Nat):Int) <= 1000000:=(by omega); rw [Int.natCast_mul] at this; omega) (by omega)
 simp only [Int.toNat_natCast,hs] at hr;unfold execOp;simp only [ho,hx,Sem.run_bind,hr,Result.andThen_ok,Sem.run_pure];exact h
theorem X6c {P:Program} {w:World} {ops:Array Oper} {rest:List Oper} {o:Oper} {a:Act} {Q:Exit -> Act -> World -> Prop} (hg:o.guard=none) (p x:Operand) (T:TypeId) (Ow:o.op=.store T p x)
    (hT:∀ w,(sizeOf T).run P w=.ok 1 w) {g k:Nat} (hp:a.eval p=.pointer (some ⟨g,k,none⟩)) {u:Value} (hx:a.eval x=u) (hu:u.cells=#[u]) (h1:u.oneCell'=true) {BT:TypeId} {cs:Array Value} (hb:Blk w g BT cs) (hk:k < cs.size)
    (hK:∀ w',Blk w' g BT (cs.setIfInBounds k u) -> (∀ n,n <= g -> Below n w w') -> (∀ k,k ≠ g -> w'.heap[k]?=w.heap[k]?) -> wpList P ops Q rest (a.put o.dst undef) w'):wpList P ops Q (o :: rest) a w:=by
 refine wpList_plain hg fun K' B3=>?_;unfold Oper.wp;have h0:=hb.cell k;rw [Array.getElem?_eq_getElem hk] at h0;have hs:(storeVar T ⟨g,k,none⟩ u).run P w=.ok () (w.setCell ⟨g,k,none⟩ u):=by
  unfold storeVar;simp only [Sem.run_bind,hT,Result.andThen_ok,hu];rw [if_neg (by simp)]
  simp only [storeCells,Sem.run_bind,Sem.run_pure];have ea:(⟨g,k,none⟩:Addr).add 0=⟨g,k,none⟩:=by rw [addr_add,Nat.add_zero]
  rw [ea,run_store P w _ u _ h1];simp only [h0,hb.frozen k,Bool.false_eq_true,if_false,Result.andThen_ok]
 have Ck:(execOp a.eval o).run P w=.ok .skip (w.setCell ⟨g,k,none⟩ u):=by
  unfold execOp;simp only [Ow,hp,hx,Instr.storeAt,Instr.sureAddr,Sem.run_bind,Sem.run_pure,Result.andThen_ok,hs]
 rw [Ck];exact B3 _ _ (hK _ (hb.set k u) (fun n hn=>(Below.refl n w).setCell (p:=⟨g,k,none⟩) hn u) (fun k' hk'=>Below.heap_setCell _ _ _ _ hk'))
end Go.Proofs
namespace Go.Proofs
open Go.RowKit Go.Tw Go.Flow
attribute [local go_sem] Oper.semAt_some
def J2y (s:Q0b) (p:List Rul) (i:Nat):Bool:=(Q1g s i).keeps s.limit (Q0h p (Q0c s.members i))
def Q7x (s:Q0b) (p:List Rul) (k:Nat):List Int:=((List.range k).filter (J2y s p)).map Int.ofNat
theorem Z5n (s:Q0b) (p:List Rul):Q7x s p s.members.length=Q1w s p:=rfl
theorem Z1c (s:Q0b) (p:List Rul) (k:Nat):Q7x s p (k + 1)=if J2y s p k then Q7x s p k ++ [(k:Int)] else Q7x s p k:=by
 unfold Q7x;rw [List.range_succ,List.filter_append,List.map_append]
 by_cases h:J2y s p k=true
 . rw [if_pos h]; simp [h]
 . rw [if_neg h]; simp [h]
theorem Y2t (s:Q0b) (p:List Rul) (k:Nat):(Q7x s p k).length <= k:=by
 unfold Q7x;rw [List.length_map];exact Nat.le_trans (List.length_filter_le _ _) (by simp)
theorem Q8y (w:World) (x y:Value):(Instr.field 99 (.agg #[x,y]) 1).run Tryz.prog w=.ok y w:=by kernel_rfl
attribute [local go_sem ↓] Q8y
end Go.Proofs
namespace Go.Proofs
open Go.RowKit Go.Tw Go.Flow
attribute [local go_sem] Oper.semAt_some
def Q5h (s:Q0b) (p:List Rul) (f:List Bool -> Int):Nat -> Int
 | 0=>0
 | k + 1=>Q5h s p f k + Q0n s.members k * f (Q0h p (Q0c s.members k))
theorem X8y (s:Q0b) (p:List Rul) (f:List Bool -> Int):∀ k,k <= s.members.length -> Q5h s p f k=((s.members.take k).map fun m=>m.weight * f (Q0h p m.classes)).sum
 | 0,_=>by simp [Q5h]
 | k + 1,h=>by
   unfold Q5h;rw [X8y s p f k (by omega),List.take_succ_eq_append_getElem (by omega),List.map_append,List.sum_append]
   unfold Q0n Q0c;rw [Q0u _ (show k < s.members.length by omega)]
   simp
theorem Y2v (s:Q0b) (p:List Rul) (f:List Bool -> Int):Q5h s p f s.members.length=(s.members.map fun m=>m.weight * f (Q0h p m.classes)).sum:=by
 rw [X8y s p f _ (Nat.le_refl _),List.take_length]
theorem Y0a {s:Q0b} (hS:Q0r s) (p:List Rul) {f:List Bool -> Int} {M:Int} (hM:0 <= M) (hf:∀ l:List Bool,l.length <= s.ships.length -> 0 <= f l /\ f l <= M):∀ k,k <= s.members.length -> 0 <= Q5h s p f k /\ Q5h s p f k <= k * (1000 * M)
 | 0,_=>by simp [Q5h]
 | k + 1,h=>by
   have ih:=Y0a hS p hM hf k (by omega)
   have hw:=hS.weights k (by omega)
   have hc:=hf (Q0h p (Q0c s.members k)) (by rw [Q1l,(hS.shaped k (by omega)).1]; exact Nat.le_refl _)
   have h1:0 <= Q0n s.members k * f (Q0h p (Q0c s.members k)):=Int.mul_nonneg (by omega) hc.1
   have h2:Q0n s.members k * f (Q0h p (Q0c s.members k)) <= 1000 * M:=Int.mul_le_mul hw.2 hc.2 hc.1 (by omega)
   unfold Q5h;have h3:((k + 1:Nat):Int) * (1000 * M)=(k:Int) * (1000 * M) + 1000 * M:=by rw [Int.natCast_add,Int.add_mul]; simp
   rw [h3];omega
theorem X8u {s:Q0b} (hS:Q0r s) (l:List Bool) (hl:l.length <= s.ships.length):0 <= Q3y s l /\ Q3y s l <= 6000:=by
 unfold Q3y;have h6:=hS.tides.2;have:∀ k,k <= l.length -> 0 <= ((List.range k).map fun t=>if l.getD t false then ix s.ships t else 0).sum /\ ((List.range k).map fun t=>if l.getD t false then ix s.ships t else 0).sum <= k * 1000:=by
  intro k
  induction k with
  | zero=>intro _; simp
  | succ k ih =>
    intro hk;have:=ih (by omega)
    rw [List.range_succ,List.map_append,List.sum_append];have hd:=hS.delays (ix s.ships k) (by rw [Q5g (show k < s.ships.length by omega)]; exact List.getElem_mem _)
    have e:(List.map (fun t=>if l.getD t false=true then ix s.ships t else 0) [k]).sum=if l.getD k false=true then ix s.ships k else 0:=by simp
    rw [e]
    split <;> omega
 have:=this l.length (Nat.le_refl _);omega
theorem X3y {s:Q0b} (hS:Q0r s) (l:List Bool) (hl:l.length <= s.ships.length):0 <= countB l /\ countB l <= 6:=by
 have:=countB_le l;have:=hS.tides.2;omega
end Go.Proofs
namespace Go.Proofs
open Go.RowKit Go.Tw Go.Flow
theorem Z3a (a b:Int) (h0:0 <= a) (hb:0 < b):Int.gcd b (a.tmod b)=Int.gcd a b:=by
 obtain ⟨n,rfl⟩:=Int.eq_ofNat_of_zero_le h0;obtain ⟨m,rfl⟩:=Int.eq_ofNat_of_zero_le (Int.le_of_lt hb);show Nat.gcd m (n % m)=Nat.gcd n m;rw [Nat.gcd_comm n m,Nat.gcd_comm m,<- Nat.gcd_rec]
theorem Ext.frozen {a b:World} (h:Ext a b) {p:Addr} (hp:p.block < a.heap.size):b.frozen? p=a.frozen? p:=by
 obtain ⟨_,_,_,_,h5⟩:=h;unfold World.frozen?; rw [h5 _ hp]
theorem wrap_in {n:Int} (h1:-9223372036854775808 <= n) (h2:n <= 9223372036854775807):IntKind.i64.wrap n=n:=by
 simp only [IntKind.wrap,IntKind.bits,IntKind.signed,Bool.true_and,decide_eq_true_eq,ge_iff_le]
 split <;> omega
theorem Y3i (w:World) (cs:Array Value) (e:TypeId) (i:Nat):(w.alloc (.cells cs e)).frozen? ⟨w.heap.size,i,none⟩=false:=by
 have h:(w.alloc (.cells cs e)).heap[w.heap.size]?=some (.cells cs e):=by show (w.heap.push _)[_]?=_; simp
 unfold World.frozen?; rw [h]; simp
theorem Z6s (w:World) (a b:Int) (ha:0 <= a) (uW:a <= 4611686018427387904) (hb:1 <= b) (mz:b <= 4611686018427387904) :
    Calls Tryz.prog 69 #[.int .i64 a,.int .i64 b] w fun e w'=>e=.returned (.agg #[.int .i64 (lowest a b).num,.int .i64 (lowest a b).den]) /\ Ext w w':=by
 have hw:=Ext.box w (.cells #[.int .i64 0,.int .i64 0] 107);have c0:=X4t w #[.int .i64 0,.int .i64 0] 107 0;have c1:=X4t w #[.int .i64 0,.int .i64 0] 107 1;have f0:=Y3i w #[.int .i64 0,.int .i64 0] 107 0;have f1:=Y3i w #[.int .i64 0,.int .i64 0] 107 1;have tW:w.heap.size < (w.alloc (.cells #[.int .i64 0,.int .i64 0] 107)).heap.size:=by show _ < (w.heap.push _).size; rw [Array.size_push]; omega
 have n1:¬ b < 0:=by omega
 go_enter Tryz.func69,Tryz.ntmps69;go_wp2;obtain ⟨W,hW⟩:∃ W,w.alloc (.cells #[.int .i64 0,.int .i64 0] 107)=W:=⟨_,rfl⟩;rw [hW] at c0 c1 f0 f1 tW hw ⊢;simp only [Go.Tw.gA,Go.Tw.gB,Go.Tw.gC] at c0 c1;clear hW
 go_loopw [5,6] (fun x y wr=>∃ (p q:Int),x=.int .i64 p /\ y=.int .i64 q /\ 0 <= p /\ 0 <= q /\ p <= 4611686018427387904 /\ q <= 4611686018427387904 /\ (0 < p ∨ 0 < q) /\ Int.gcd p q=Int.gcd a b /\ Ext W wr) (fun _ y _=>(intOf y).toNat)
 case atStart=>exact ⟨a,b,by first | rfl | rw [show max a (-a)=a by omega],by first | rfl | rw [show max b (-b)=b by omega],ha,by omega,uW,mz,by omega,rfl,Ext.refl _⟩
 case round =>
  obtain ⟨p,q,rfl,rfl,hp,hq,R6,Ng,Ll,hg,Ej⟩:=hrel
  by_cases hz:q=0
  . subst hz
    have YZ:p=(Int.gcd a b:Int):=by rw [<- hg,Int.gcd_zero]; omega
    have Kl:¬ p=0:=by omega
    replace c0:=Ej.cell c0;replace c1:=Ej.cell c1;have BG:=hid YZ;clear hg YZ;have J2:a / p <= a:=Int.ediv_le_self _ ha;have Ng:b / p <= b:=Int.ediv_le_self _ (by omega)
    have Q6:0 <= a / p:=Int.ediv_nonneg ha hp;have Jl:0 <= b / p:=Int.ediv_nonneg (by omega) hp
    have Gl:a.tdiv p=a / p:=Int.tdiv_eq_ediv_of_nonneg ha;have Fl:b.tdiv p=b / p:=Int.tdiv_eq_ediv_of_nonneg (by omega)
    have Cl:IntKind.i64.wrap (a / p)=a / p:=wrap_in (by omega) (by omega)
    have Bl:IntKind.i64.wrap (b / p)=b / p:=wrap_in (by omega) (by omega)
    have Aw:=Nat.lt_of_lt_of_le tW Ej.size;replace f0:=(Ej.frozen tW).trans f0;replace f1:=(Ej.frozen tW).trans f1;go_wp2;refine Flow.region [.p,.p,.p,.p,.p,.p,.p,.last] [0,1,2,3,4,5,6,7] [[],[],[0,1],[],[],[3,4],[0,1,2,3,4,5],[0,1,2,3,4,5,6]] [7]
     [.c 0 (.int .i64 a),.c 1 (.int .i64 p),.c 2 (.int .i64 (a / p)),.c 3 (.int .i64 b),.c 4 (.int .i64 p),.c 5 (.int .i64 (b / p)),.c 6 (.agg #[.int .i64 (a / p),.int .i64 (b / p)]),.none]
     [fun v w1 w'=>w'.cell? ⟨w.heap.size,0,none⟩=some (.int .i64 (a / p)) /\ w'.cell? ⟨w.heap.size,1,none⟩=some (.int .i64 (b / p)) /\ Below w.heap.size w1 w'] (by kernel_rfl) rfl (by kernel_rfl) ⟨?g0,?g1,?g2,?g3,?g4,?g5,?g6,?g7,trivial⟩ ?post
    case g0 | g1 | g3 | g4=>
     intro v w1 hx;refine ⟨_,fun w=>?_,rfl⟩;go_simp
    case g2 | g5 | g6=>
     intro v w1 hx;(repeat intro (zq:v _=_));refine ⟨_,fun w=>?_,rfl⟩;go_simp
    case g7=>
     intro v w1 hx;(repeat intro (zq:v _=_));intro wl hT;obtain rfl:wl=w1:=hT;intro bb hbb;subst hbb;have c0:=hx.cell c0;have c1:=hx.cell c1;intro K hK;have g0:=(hx.frozen (p:=⟨w.heap.size,0,none⟩) Aw).trans f0;have g1:=(hx.frozen (p:=⟨w.heap.size,1,none⟩) Aw).trans f1;go_simp;refine hK _ _ ⟨?_,?_,((Below.refl w.heap.size wl).setCell (p:=⟨w.heap.size,0,none⟩) (Nat.le_refl _) _).setCell (p:=⟨w.heap.size,1,none⟩) (Nat.le_refl _) _⟩
     . refine Eq.trans (World.cell?_setCell_other _ _ _ _ ?_) (World.cell?_setCell_same _ _ _ c0); intro h; cases h
     . refine World.cell?_setCell_same _ _ _ (Eq.trans (World.cell?_setCell_other _ _ _ _ ?_) c1); intro h; cases h
    case post =>
     intro v w1 hx;(iterate 7 intro (zq:v _=_));intro w2 hE;replace hE:(fun v w1 w'=>w'.cell? ⟨w.heap.size,0,none⟩=some (.int .i64 (a / p)) /\ w'.cell? ⟨w.heap.size,1,none⟩=some (.int .i64 (b / p)) /\ Below w.heap.size w1 w') v w1 w2:=hE;simp only [Flow.acts,Act.put];go_simp;obtain ⟨e0,e1,e2⟩:=hE
     apply_assumption
     go_wp2;refine bodyPost_ret (v:=.agg #[.int .i64 (a / p),.int .i64 (b / p)]) (by simp [results,Tryz.results69,go_sem,e0,e1]) rfl ?_
     exact ⟨by rw [BG.out]; rfl,Below.trans ((hw.trans Ej.drew).trans hx) e2⟩
  . have ny:0 < q:=by omega
    have tj:=Z3a p q hp ny;have Tv:p % q < q:=Int.emod_lt_of_pos p ny;have AG:=Int.emod_nonneg p (show q ≠ 0 by omega)
    rw [Int.tmod_eq_emod_of_nonneg hp] at tj;go_wp2
    go_quiet (fail)
    all_goals go_wp2
    go_roundw
    case rel=>exact ⟨q,p % q,rfl,by go_num,by omega,AG,Ng,by omega,Or.inl ny,by rw [tj,hg],Ej.drewN _⟩
    case measure=>exact (Int.toNat_lt_toNat ny).2 Tv
end Go.Proofs
namespace Go.Tw
def Z5t (f:Nat -> List Int) (i:Nat):Bool:=!(List.range i).any fun j=>f j == f i
def Q6l (f:Nat -> List Int) (k i:Nat):List Nat:=(List.range k).filter fun j=>f j == f i
def X3n (f:Nat -> List Int) (k:Nat):List Nat:=(List.range k).filter (Z5t f)
theorem Z3m {f:Nat -> List Int} {i:Nat}:Z5t f i=true ↔ ∀ j,j < i -> f j ≠ f i:=by
 unfold Z5t;simp only [Bool.not_eq_true',List.any_eq_false,List.mem_range,beq_iff_eq]
theorem Y0f (f:Nat -> List Int) (k i:Nat):Q6l f (k + 1) i=Q6l f k i ++ if f k == f i then [k] else []:=by
 unfold Q6l;rw [List.range_succ,List.filter_append]
 by_cases h:(f k == f i)=true
 . rw [if_pos h]; simp [h]
 . rw [if_neg h]; simp [h]
theorem X9h {f:Nat -> List Int} {i:Nat} (h:Z5t f i=true):∀ {k:Nat},i < k -> (Q6l f k i).head?=some i
 | 0,hk=>absurd hk (Nat.not_lt_zero _)
 | k + 1,hk=>by
   rw [Y0f]
   by_cases hi:i < k
   . rw [List.head?_append,X9h h hi]; rfl
   . have e:i=k:=by omega
     subst e;have:Q6l f i i=[]:=by
      unfold Q6l;rw [List.filter_eq_nil_iff];intro j hj zl;exact Z3m.1 h j (List.mem_range.1 hj) (by simpa using zl)
     rw [this,if_pos (by simp)]
     rfl
theorem X2d (f:Nat -> List Int) (k:Nat):X3n f (k + 1)=X3n f k ++ if Z5t f k then [k] else []:=by
 unfold X3n;rw [List.range_succ,List.filter_append]
 by_cases h:Z5t f k=true
 . rw [if_pos h]; simp [h]
 . rw [if_neg h]; simp [h]
theorem Y3h {f:Nat -> List Int} {k i:Nat} (hi:i < k):((Q6l f k i).head? == some i)=Z5t f i:=by
 by_cases h:Z5t f i=true
 . rw [X9h h hi,h]; simp
 . have h':Z5t f i=false:=by simpa using h
   rw [h',beq_eq_false_iff_ne];intro hh;have yl:∃ j,j < i /\ f j=f i:=by
    apply Classical.byContradiction
    intro my;exact h (Z3m.2 fun j hj e=>my ⟨j,hj,e⟩)
   obtain ⟨j,hj,e⟩:=yl;have hs:(Q6l f k i).Pairwise (· < ·):=List.pairwise_lt_range.filter _;have hm:j ∈ Q6l f k i:=List.mem_filter.2 ⟨List.mem_range.2 (by omega),by simpa using e⟩
   cases hl:Q6l f k i with
   | nil=>rw [hl] at hm; cases hm
   | cons x l =>
     rw [hl] at hh hs hm;injection hh with hh;subst hh
     rcases List.mem_cons.1 hm with rfl | hm
     . omega
     . have:=(List.pairwise_cons.1 hs).1 j hm
       omega
def Y8u (s:Q0b) (i:Nat):List Int:=Q0c s.members i
theorem X6j (s:Q0b) (i:Nat):X1o s i=Q6l (Y8u s) s.members.length i:=rfl
theorem X5e (s:Q0b):Q6o s=(X3n (Y8u s) s.members.length).map fun i=>⟨(Q6l (Y8u s) s.members.length i).map Int.ofNat,Y6w s (Q6l (Y8u s) s.members.length i)⟩:=by
 unfold Q6o X3n;simp only [X6j]
 congr 1
 refine List.filter_congr fun i hi=>?_;exact Y3h (List.mem_range.1 hi)
end Go.Tw
namespace Go.Tw
theorem X0x (s:Q0b) (p:List Rul):∀ x ∈ Q1w s p,0 <= x /\ x < s.members.length:=by
 intro x hx;obtain ⟨i,hi,rfl⟩:=List.mem_map.1 hx;have:=List.mem_range.1 (List.mem_filter.1 hi).1;exact ⟨Int.natCast_nonneg i,Int.ofNat_lt.2 this⟩
theorem kept_len (s:Q0b) (p:List Rul):(Q1w s p).length <= s.members.length:=by
 unfold Q1w;rw [List.length_map];exact Nat.le_trans (List.length_filter_le _ _) (by simp)
end Go.Tw
namespace Go.Proofs
open Go.RowKit Go.Tw Go.Flow
attribute [local go_sem] Oper.semAt_some
theorem Z4j {s:Q0b} (hS:Q0r s) {l:List Int} (h:∀ x ∈ l,0 <= x /\ x < s.members.length):(l.length:Int) <= Q1t s l /\ Q1t s l <= 1000 * l.length:=by
 induction l with
 | nil=>exact ⟨Int.le_refl _,by simp [Q1t]⟩
 | cons x l ih =>
   have h1:=ih fun y hy=>h y (List.mem_cons_of_mem _ hy);have hx:=h x (List.mem_cons_self ..);have hw:=hS.weights x.toNat (by omega)
   have e:Q1t s (x :: l)=Q0n s.members x.toNat + Q1t s l:=by simp [Q1t]
   rw [e,List.length_cons];omega
theorem Tryz.J1o (w:World):(isAgg 107).run Tryz.prog w=.ok true w:=by kernel_rfl
theorem Tryz.X5m (w:World):(sizeOf 107).run Tryz.prog w=.ok 2 w:=by kernel_rfl
end Go.Proofs
namespace Go.Proofs
open Go.RowKit Go.Tw Go.Flow Tryz
theorem Z2x (n k:Nat):(((n / 2 ^ k:Nat):Int).tmod 2 == 1)=n.testBit k:=by
 rw [Nat.testBit_eq_decide_div_mod_eq,show ((n / 2 ^ k:Nat):Int).tmod 2=((n / 2 ^ k % 2:Nat):Int) from (Int.ofNat_tmod _ 2).symm]
 by_cases h:n / 2 ^ k % 2=1
 . rw [h]; rfl
 . rw [decide_eq_false h,beq_eq_false_iff_ne]; omega
theorem Z9f (n k:Nat):((n / 2 ^ k:Nat):Int).tdiv 2=((n / 2 ^ (k + 1):Nat):Int):=by
 rw [show ((n / 2 ^ k:Nat):Int).tdiv 2=((n / 2 ^ k / 2:Nat):Int) from (Int.ofNat_tdiv _ 2).symm,Nat.div_div_eq_div_mul,<- Nat.pow_succ]
theorem Tryz.Y5j (w:World):(sizeOf 4).run prog w=.ok 1 w:=by kernel_rfl
def J5f (P:Prop) (w w':World) (e:Ending):Prop:=∃ q,e=.returned (.bool q) /\ (q=true ↔ P) /\ Ext w w'
theorem qno {P:Prop} {w w':World} (h:¬ P) (hx:Ext w w'):J5f P w w' (.returned (.bool false)):=⟨false,rfl,⟨fun k=>(by cases k),fun k=>absurd k h⟩,hx⟩
theorem K0t {P:Prop} {w w':World} (h:P) (hx:Ext w w'):J5f P w w' (.returned (.bool true)):=⟨true,rfl,⟨fun _=>h,fun _=>rfl⟩,hx⟩
def X5y (s:Q0b) (i:Nat):Prop:=(Q1s s.members i).size <= 60 /\ (Q0c s.members i).length <= 8 /\ (Q1c s.members i).length <= 8 /\ (Q1f s.members i).length <= 8
structure Q2r (s:Q0b):Prop where
 ships:s.ships.length <= 7
 members:s.members.length <= 9
 each:∀ i,i < s.members.length -> X5y s i
theorem Z5i (w:World) (v:Value) (s:Q0b) (hv:Q0i w v s) :
    Calls prog 15 #[v] w fun e w'=>J5f (Q2r s) w w' e:=by
 obtain ⟨a,b,rfl,h2⟩:=hv;obtain ⟨A,Tq,rfl,mw,-,-⟩:=h2.ships.opened;obtain ⟨B,Vq,rfl,ry,-,hc⟩:=h2.members.opened;have HC:=hid hc;clear h2 hc;have ag:Hid (¬ s.ships.length <= 7 -> ¬ Q2r s):=hid (fun h hs=>h hs.ships);have sJ:Hid (¬ s.members.length <= 9 -> ¬ Q2r s):=hid (fun h hs=>h hs.members);have vl:Hid (∀ i,i < s.members.length -> ¬ X5y s i -> ¬ Q2r s):=hid (fun i hi h hs=>h (hs.each i hi))
 by_cases h7:7 < s.ships.length
 . have ue:(7:Int) < s.ships.length:=by omega
   have HF:=hid (ag.out (by omega))
   clear h7;go_enter func15,ntmps15;go_wp2;go_ret;exact qno HF.out (Ext.box _ _)
 have ue:¬ (7:Int) < s.ships.length:=by omega
 by_cases h9:9 < s.members.length
 . have te:(9:Int) < s.members.length:=by omega
   have HF:=hid (sJ.out (by omega))
   clear h9 h7;go_enter func15,ntmps15;go_wp2;go_ret;exact qno HF.out (Ext.box _ _)
 have te:¬ (9:Int) < s.members.length:=by omega
 have W4:Hid ((∀ i,i < s.members.length -> X5y s i) -> Q2r s):=hid (fun h=>⟨by omega,by omega,h⟩)
 clear h7 h9;go_enter func15,ntmps15;go_wp2_with fail;change Code.wp _ _ _ _ (w.alloc (.cells #[.int .i64 s.limit,.slice A s.ships.length Tq,.slice B s.members.length Vq] 25));obtain ⟨W,Mq,k0,Rq,eW⟩:=Q2q w 25 #[.int .i64 s.limit,.slice A s.ships.length Tq,.slice B s.members.length Vq];rw [Mq];clear Mq;have K0:=hid k0;clear k0 ue te
 go_loopw [3] (fun i wr=>∃ k:Nat,k <= s.members.length /\ i=.int .i64 k /\ (∀ j,j < k -> X5y s j) /\ Ext W wr) (fun i _=>s.members.length - (intOf i).toNat)
 case atStart=>exact ⟨0,Nat.zero_le _,rfl,fun j hj=>absurd hj (Nat.not_lt_zero j),Ext.refl _⟩
 case round =>
  obtain ⟨k,hk,rfl,mq,Gq⟩:=hrel;have iz:=hid mq;have c2:=(K0.out.ext Gq).cell 2;simp only [Go.Tw.gA,Go.Tw.gB,Go.Tw.gC] at c2;have Pj:=hid Gq;clear mq Gq
  by_cases Uq:k < s.members.length
  . have zj:(k:Int) < s.members.length:=by omega
    obtain ⟨bm,off,x,y,z,rfl,-,e0,e1,e2,e3,e4,hx,hy,hz,-⟩:=HC.out k Uq;obtain ⟨X,Sq,rfl,-,-,-⟩:=hx.opened;obtain ⟨Y,Jq,rfl,-,-,-⟩:=hy.opened;obtain ⟨Z,Cq,rfl,-,-,-⟩:=hz.opened;replace e0:=(Rq.out.trans Pj.out).cell e0;replace e1:=(Rq.out.trans Pj.out).cell e1;replace e2:=(Rq.out.trans Pj.out).cell e2;replace e3:=(Rq.out.trans Pj.out).cell e3;replace e4:=(Rq.out.trans Pj.out).cell e4;have Mg:Hid (X5y s k ↔ (Q1s s.members k).size <= 60 /\ (Q0c s.members k).length <= 8 /\ (Q1c s.members k).length <= 8 /\ (Q1f s.members k).length <= 8):=hid Iff.rfl;have sW:=hid (vl.out k Uq);obtain ⟨nm,Aj⟩:∃ x,Q1s s.members k=x:=⟨_,rfl⟩;obtain ⟨wt,lq⟩:∃ x,Q0n s.members k=x:=⟨_,rfl⟩;obtain ⟨n1,Ty⟩:∃ x,(Q0c s.members k).length=x:=⟨_,rfl⟩;obtain ⟨n2,U8⟩:∃ x,(Q1c s.members k).length=x:=⟨_,rfl⟩;obtain ⟨n3,se⟩:∃ x,(Q1f s.members k).length=x:=⟨_,rfl⟩;rw [Aj] at e0 Mg;rw [lq] at e1;rw [Ty] at e2 Mg;rw [U8] at e3 Mg;rw [se] at e4 Mg;clear hx hy hz Aj lq Ty U8 se
    by_cases g0:60 < nm.size
    . have g0I:(60:Int) < (nm.size:Int):=by omega
      have HF:=hid (sW.out (fun h=>by have:=(Mg.out.1 h).1; omega))
      clear g0
      go_light
      go_wp2;go_ret;exact qno HF.out (Ext.trans Rq.out (Ext.trans Pj.out (Ext.box _ _)))
    have g0I:¬ (60:Int) < (nm.size:Int):=by omega
    by_cases g1:8 < n1
    . have g1I:(8:Int) < (n1:Int):=by omega
      have HF:=hid (sW.out (fun h=>by have:=(Mg.out.1 h).2.1; omega))
      clear g0 g1
      go_light
      go_wp2;go_ret;exact qno HF.out (Ext.trans Rq.out (Ext.trans Pj.out (Ext.box _ _)))
    have g1I:¬ (8:Int) < (n1:Int):=by omega
    by_cases g2:8 < n2
    . have g2I:(8:Int) < (n2:Int):=by omega
      have HF:=hid (sW.out (fun h=>by have:=(Mg.out.1 h).2.2.1; omega))
      clear g0 g1 g2
      go_light
      go_wp2;go_ret;exact qno HF.out (Ext.trans Rq.out (Ext.trans Pj.out (Ext.box _ _)))
    have g2I:¬ (8:Int) < (n2:Int):=by omega
    by_cases g3:8 < n3
    . have g3I:(8:Int) < (n3:Int):=by omega
      have HF:=hid (sW.out (fun h=>by have:=(Mg.out.1 h).2.2.2; omega))
      clear g0 g1 g2 g3
      go_light
      go_wp2;go_ret;exact qno HF.out (Ext.trans Rq.out (Ext.trans Pj.out (Ext.box _ _)))
    have g3I:¬ (8:Int) < (n3:Int):=by omega
    have HT:=hid (Mg.out.2 ⟨by omega,by omega,by omega,by omega⟩)
    clear g0 g1 g2 g3
    go_light
    go_wp2;go_roundw
    case rel=>exact ⟨k + 1,by omega,by go_num,fun j hj=>by
     by_cases qJ:j=k
     . rw [qJ]; exact HT.out
     . exact iz.out j (by omega),Ext.trans Pj.out (Ext.box _ _)⟩
    case measure=>simp [intOf]; omega
  . have zj:¬ (k:Int) < s.members.length:=by omega
    have lj:k=s.members.length:=by omega
    subst lj;have HT:=hid (W4.out iz.out);go_wp2;go_ret;exact K0t HT.out (Rq.out.trans Pj.out)
structure K0p (p:List Rul):Prop where
 rules:p.length <= 49
 each:∀ i,i < p.length -> (Q0m p i).length <= 8
structure K0o (l:List Grp):Prop where
 groups:l.length <= 9
 each:∀ i,i < l.length -> (Q6x l i).length <= 9
end Go.Proofs
namespace Go.Tw
open Go.RowKit Go.Flow
def idV (x:Value):Value:=x
def Reads (w:World) (vs:List Value) (ll:List (List Int)):Prop:=vs.length=ll.length /\ ∀ i,i < ll.length -> Q0g w (vs.getD i undef) (ll.getD i [])
theorem Reads.ext {w w':World} {vs:List Value} {ll:List (List Int)} (h:Reads w vs ll) (hx:Ext w w'):Reads w' vs ll:=⟨h.1,fun i hi=>(h.2 i hi).ext hx⟩
theorem Q0g.below {w w':World} {B:Nat} {v:Value} {l:List Int} (h:Q0g w v l) (hb:Below B w w') (Yj:∀ b o c,v=.slice (some ⟨b,o,none⟩) l.length c -> l ≠ [] -> b < B):Q0g w' v l:=by
 obtain ⟨c,⟨A,Qq,hv,hn,Kq,hc⟩,h2⟩:=h;refine ⟨c,⟨A,Qq,hv,hn,Kq,fun j hj=>?_⟩,h2⟩;obtain ⟨b,off,hA,h⟩:=hc j hj;refine ⟨b,off,hA,?_⟩;have:b < B:=Yj b off Qq (by rw [hv,hA]) (fun e=>by rw [e] at hj; simp at hj)
 exact (hb.cell (p:=⟨b,off + j,none⟩) this).trans h
theorem Reads.snoc {w:World} {vs:List Value} {ll:List (List Int)} {v:Value} {l:List Int} (h:Reads w vs ll) (hv:Q0g w v l):Reads w (vs ++ [v]) (ll ++ [l]):=by
 refine ⟨by simp [h.1],fun i hi=>?_⟩
 rw [List.length_append,List.length_singleton] at hi
 by_cases Uq:i < ll.length
 . have e1:(vs ++ [v]).getD i undef=vs.getD i undef:=by simp [List.getElem?_append_left (show i < vs.length by rw [h.1]; exact Uq)]
   have e2:(ll ++ [l]).getD i []=ll.getD i []:=by simp [List.getElem?_append_left Uq]
   rw [e1,e2]; exact h.2 i Uq
 . have e:i=ll.length:=by omega
   have e1:(vs ++ [v]).getD i undef=v:=by rw [e,<- h.1]; simp
   have e2:(ll ++ [l]).getD i []=l:=by rw [e]; simp
   rw [e1,e2]; exact hv
theorem X9j {α:Type} (x d:α):∀ (n:Nat) (xs:List α) (i:Nat),n <= xs.length -> (xs.take n ++ [x] ++ xs.drop n).getD i d=if i < n then xs.getD i d else if i=n then x else xs.getD (i - 1) d
 | 0,xs,i,_=>by cases i <;> simp
 | n + 1,[],i,h=>by simp at h
 | n + 1,y :: ys,0,_=>by simp
 | n + 1,y :: ys,i + 1,h=>by
   have:=X9j x d n ys i (by simpa using h)
   simp only [List.take_succ_cons,List.drop_succ_cons,List.cons_append,List.getD_cons_succ,this]
   by_cases h1:i < n
   . have O2:i + 1 < n + 1:=by omega
     simp only [h1,O2,if_true]
   . have O2:¬ (i + 1 < n + 1):=by omega
     by_cases h2:i=n
     . subst h2
       simp
     . have G9:¬ (i + 1=n + 1):=by omega
       obtain ⟨m,rfl⟩:∃ m,i=m + 1:=⟨i - 1,by omega⟩
       simp only [h1,O2,h2,G9,if_false];simp
theorem Reads.insert {w:World} {vs:List Value} {ll:List (List Int)} {v:Value} {l:List Int} {n:Nat} (h:Reads w vs ll) (hv:Q0g w v l) (hn:n <= ll.length):Reads w (vs.take n ++ [v] ++ vs.drop n) (ll.take n ++ [l] ++ ll.drop n):=by
 have hl:=h.1;refine ⟨by simp [hl],fun i hi=>?_⟩
 rw [X9j _ _ _ _ _ (by omega),X9j _ _ _ _ _ hn]
 simp only [List.length_append,List.length_take,List.length_drop,List.length_singleton] at hi
 split
 . exact h.2 i (by omega)
 . split
   . exact hv
   . exact h.2 (i - 1) (by omega)
theorem Q0q.J8q {w:World} {base:Nat} {e:TypeId} {v:Value} {vs:List Value} {ll:List (List Int)} (h:Q0q w base e idV v vs) (hr:Reads w vs ll) (hl:ll.length <= 17592186043904):Q3z w v ll:=by
 refine ⟨fun k=>vs.getD k undef,?_,fun j hj=>?_⟩
 . rw [<- hr.1]
   exact h.row (by rw [hr.1]; exact hl) _ (fun k hk=>by simp [hk,idV])
 . have:=hr.2 j hj
   rw [Q0u _ hj] at this
   simpa using this
theorem Q3z.opened {w:World} {v:Value} {ll:List (List Int)} (h:Q3z w v ll) :
    ∃ A Qq,v=.slice A ll.length Qq /\ ll.length <= 17592186043904 /\ ll.length <= Qq /\ ∀ k,k < ll.length -> ∃ b off m,A=some ⟨b,off,none⟩ /\ b < w.heap.size /\ w.cell? ⟨b,off + k,none⟩=some m /\ Q0g w m (ll.getD k []):=by
 obtain ⟨c,⟨A,Qq,hv,hn,Kq,hc⟩,h2⟩:=h;refine ⟨A,Qq,hv,hn,Kq,fun k hk=>?_⟩;obtain ⟨b,off,hA,h⟩:=hc k (by omega)
 refine ⟨b,off,c k,hA,World.block_lt_of_cell? w _ h,h,?_⟩;have:=h2 k hk;simp only [Nat.mul_one,Nat.add_zero] at this;rw [Q0u _ hk]; exact this
theorem Q0q.cells {α:Type} {w:World} {base:Nat} {e:TypeId} {enc:α -> Value} {v:Value} {xs:List α} (h:Q0q w base e enc v xs) :
    ∃ A c,v=.slice A xs.length c /\ xs.length <= c /\ (∀ j (hj:j < xs.length),∃ g,A=some ⟨g,0,none⟩ /\ base <= g /\ g < w.heap.size /\ w.cell? ⟨g,0 + j,none⟩=some (enc xs[j])):=by
 obtain ⟨_,h2⟩:=h
 rcases h2 with ⟨rfl,h0⟩ | ⟨g,Qq,cur,rfl,hb,hg,Kq,_,_,nx⟩
 . exact ⟨none,0,by rw [h0],by omega,fun j hj=>by omega⟩
 . refine ⟨some ⟨g,0,none⟩,Qq,rfl,Kq,fun j hj=>⟨g,rfl,hb,(Array.getElem?_eq_some_iff.1 hg).1,?_⟩⟩
   rw [Nat.zero_add];have h1:=congrArg (fun l=>l[j]?) nx;simp only [Nat.mul_one,List.getElem?_take,hj,if_true,List.getElem?_map,List.getElem?_eq_getElem hj,Option.map_some] at h1;simp only [World.cell?,hg]
   simpa using h1
theorem Q0q.cells2 {α:Type} {w:World} {base:Nat} {e:TypeId} {enc:α -> Value} {v:Value} {xs:List α} (h:Q0q w base e enc v xs) :
    (v=.slice none 0 0 /\ xs=[]) ∨ ∃ g c,v=.slice (some ⟨g,0,none⟩) xs.length c /\ xs.length <= c /\ base <= g /\ g < w.heap.size /\ ∀ j (hj:j < xs.length),w.cell? ⟨g,0 + j,none⟩=some (enc xs[j]):=by
 obtain ⟨_,h2⟩:=h
 rcases h2 with ⟨rfl,h0⟩ | ⟨g,Qq,cur,rfl,hb,hg,Kq,_,_,nx⟩
 . exact .inl ⟨rfl,List.length_eq_zero_iff.1 h0⟩
 . refine .inr ⟨g,Qq,rfl,Kq,hb,(Array.getElem?_eq_some_iff.1 hg).1,fun j hj=>?_⟩
   rw [Nat.zero_add];have h1:=congrArg (fun l=>l[j]?) nx;simp only [Nat.mul_one,List.getElem?_take,hj,if_true,List.getElem?_map,List.getElem?_eq_getElem hj,Option.map_some] at h1;simp only [World.cell?,hg]
   simpa using h1
theorem Q0q.weaken {α:Type} {w:World} {base base':Nat} {e:TypeId} {enc:α -> Value} {v:Value} {xs:List α} (h:Q0q w base e enc v xs) (hb:base' <= base):Q0q w base' e enc v xs:=by
 obtain ⟨h1,h2⟩:=h;refine ⟨h1,?_⟩
 rcases h2 with h2 | ⟨g,Qq,cur,hv,Ux,r⟩
 . exact .inl h2
 . exact .inr ⟨g,Qq,cur,hv,Nat.le_trans hb Ux,r⟩
theorem Q0g.one {w:World} {v:Value} {l:List Int} (h:Q0g w v l):(idV v).oneCell'=true:=by
 obtain ⟨A,Qq,rfl,_⟩:=h.opened;rfl
theorem Q0g.cells {w:World} {v:Value} {l:List Int} (h:Q0g w v l):v.cells=#[v]:=by
 obtain ⟨A,Qq,rfl,_⟩:=h.opened;rfl
theorem Reads.one {w:World} {vs:List Value} {ll:List (List Int)} (h:Reads w vs ll):∀ y ∈ vs,(idV y).oneCell'=true:=by
 intro y hy;obtain ⟨i,hi,rfl⟩:=List.getElem_of_mem hy;have:=h.2 i (by rw [<- h.1]; exact hi)
 rw [Q0u _ hi] at this;exact this.one
def Q1x (w:World) (v:Value) (B:Nat) (e:TypeId):Prop:=∃ g,v=.slice (some ⟨g,0,none⟩) 0 0 /\ B <= g /\ w.heap[g]?=some (.cells #[] e (0,0))
theorem Q1x.ext {w w':World} {v:Value} {B:Nat} {e:TypeId} (h:Q1x w v B e) (hx:Ext w w'):Q1x w' v B e :=
 let ⟨g,h1,h2,h3⟩:=h; ⟨g,h1,h2,(Below.block hx g (Array.getElem?_eq_some_iff.1 h3).1).trans h3⟩
theorem Q1x.made (w:World) (B:Nat) (e:TypeId) (h:B <= w.heap.size):Q1x (w.alloc (.cells #[] e)) (.slice (some ⟨w.heap.size,0,none⟩) 0 0) B e:=⟨_,rfl,h,heap_alloc_new w _⟩
def Q3l (w:World) (v:Value) (x:Value):Prop:=∃ g,v=.slice (some ⟨g,0,none⟩) 1 1 /\ w.cell? ⟨g,0,none⟩=some x
theorem Q3l.ext {w w':World} {v x:Value} (h:Q3l w v x) (hx:Ext w w'):Q3l w' v x:=let ⟨g,h1,h2⟩:=h; ⟨g,h1,hx.cell h2⟩
theorem Q3l.made (w:World) (x:Value) (e:TypeId):Q3l (w.alloc (.cells #[x] e)) (.slice (some ⟨w.heap.size,0,none⟩) 1 1) x:=⟨_,rfl,X4t _ _ _ _⟩
theorem Q3l.src {w:World} {v x:Value} (h:Q3l w v x):Src w idV v [x]:=by
 obtain ⟨g,rfl,hc⟩:=h;refine ⟨_,_,rfl,fun j hj=>⟨g,0,rfl,?_⟩⟩;obtain rfl:j=0:=by rw [List.length_singleton] at hj; omega
 exact hc
theorem Y0x {w w1 w2:World} (hx:Ext w.drew w1) (hb:Below w.heap.size w1 w2):Ext w w2:=Below.trans (((Ext.refl w).drew).trans hx) hb
theorem Q0g.made (w:World) (xs:List Int) (e:TypeId) (h:xs.length <= 17592186043904):Q0g (w.alloc (.cells (xs.map (Value.int .i64)).toArray e)) (.slice (some ⟨w.heap.size,0,none⟩) xs.length xs.length) xs:=by
 refine ⟨fun k=>((xs.map (Value.int .i64))[k]?).getD undef,⟨_,_,rfl,h,Nat.le_refl _,fun j hj=>⟨_,0,rfl,?_⟩⟩,fun j hj=>?_⟩
 . have Uw:j < xs.length:=by omega
   rw [Nat.zero_add,X4t];simp [Uw]
 . simp [hj]
end Go.Tw
namespace Go.Tw
open Go.RowKit
def Q1o (p:Prop):Prop:=p
theorem halted {p:Prop} (h:Q1o p):p:=h
def Q4l:World -> Value -> List (List Bool) -> Prop:=Rows 1 fun w c x=>Q1v w (c 0) x
theorem Q4l.ext {w w':World} {v:Value} {l:List (List Bool)} (h:Q4l w v l) (hx:Ext w w'):Q4l w' v l:=Rows.ext (fun _ _ _ _ hx h=>h.ext hx) h hx
theorem Q4l.opened {w:World} {v:Value} {ll:List (List Bool)} (h:Q4l w v ll) :
    ∃ A Qq,v=.slice A ll.length Qq /\ ll.length <= 17592186043904 /\ ll.length <= Qq /\ ∀ k,k < ll.length -> ∃ b off x,A=some ⟨b,off,none⟩ /\ b < w.heap.size /\
     w.cell? ⟨b,off + k,none⟩=some x /\ Q1v w x (ll.getD k []):=by
 obtain ⟨c,⟨A,Qq,hv,hn,Kq,hc⟩,h2⟩:=h;refine ⟨A,Qq,hv,by omega,by omega,fun k hk=>?_⟩
 obtain ⟨b,off,hA,h0⟩:=hc k (by omega)
 refine ⟨b,off,c k,hA,World.block_lt_of_cell? w _ h0,h0,?_⟩;have h3:=h2 k hk;rw [Q0u _ hk]
 simpa using h3
def X2c (w:World) (vs:List Value) (ll:List (List Bool)):Prop:=vs.length=ll.length /\ ∀ i,i < ll.length -> Q1v w (vs.getD i undef) (ll.getD i [])
theorem X2c.nil (w:World):X2c w [] []:=⟨rfl,fun _ hi=>absurd hi (Nat.not_lt_zero _)⟩
theorem X2c.ext {w w':World} {vs:List Value} {ll:List (List Bool)} (h:X2c w vs ll) (hx:Ext w w'):X2c w' vs ll:=⟨h.1,fun i hi=>(h.2 i hi).ext hx⟩
theorem X2c.snoc {w:World} {vs:List Value} {ll:List (List Bool)} {v:Value} {l:List Bool} (h:X2c w vs ll) (hv:Q1v w v l):X2c w (vs ++ [v]) (ll ++ [l]):=by
 refine ⟨by simp [h.1],fun i hi=>?_⟩
 by_cases Uq:i < ll.length
 . have e1:(vs ++ [v]).getD i undef=vs.getD i undef:=by simp [List.getD_eq_getElem?_getD,List.getElem?_append_left (show i < vs.length by rw [h.1]; exact Uq)]
   have e2:(ll ++ [l]).getD i []=ll.getD i []:=by simp [List.getD_eq_getElem?_getD,List.getElem?_append_left Uq]
   rw [e1,e2]; exact h.2 i Uq
 . have he:i=ll.length:=by simp at hi; omega
   subst he;have e1:(vs ++ [v]).getD ll.length undef=v:=by rw [<- h.1]; simp
   have e2:(ll ++ [l]).getD ll.length []=l:=by simp
   rw [e1,e2]; exact hv
theorem Q0q.J8z {w:World} {base:Nat} {e:TypeId} {v:Value} {vs:List Value} {ll:List (List Bool)} (h:Q0q w base e idV v vs) (hr:X2c w vs ll) (hl:ll.length <= 17592186043904):Q4l w v ll:=by
 refine ⟨fun k=>vs.getD k undef,?_,fun j hj=>?_⟩
 . rw [<- hr.1]
   exact h.row (by rw [hr.1]; exact hl) _ (fun k hk=>by simp [hk,idV])
 . have:=hr.2 j hj
   rw [Q0u _ hj] at this
   simpa using this
theorem Y3v {α β:Type} {w w':World} {b1 b2:Nat} {T E:TypeId} {enc:α -> Value} {enc':β -> Value} {u v:Value} {l:List α} {us:List β} (h:Q0q w b1 T enc u l) (ho:Q0q w b2 E enc' v us) (zG:T ≠ E) (hg:w.grownBy w' v.ownBlock):Q0q w' b1 T enc u l:=by
 obtain ⟨h1,h2⟩:=h;refine ⟨h1,?_⟩
 rcases h2 with h2 | ⟨g,Qq,cur,hv,Ux,Bj,r⟩
 . exact .inl h2
 . refine .inr ⟨g,Qq,cur,hv,Ux,(hg.block g (Array.getElem?_eq_some_iff.1 Bj).1 fun e=>?_).trans Bj,r⟩
   obtain ⟨o1,o2⟩:=ho
   rcases o2 with ⟨rfl,_⟩ | ⟨g',cap',cur',rfl,_,sk,_⟩
   . cases e
   . obtain rfl:g'=g:=by simpa [Value.ownBlock,eq_comm] using e
     rw [Bj] at sk;injection sk with h;injection h with _ h;exact zG h
theorem Z3p {α:Type} {w:World} {b g k:Nat} {T S:TypeId} {enc:α -> Value} {u x:Value} {l:List α} {cs:Array Value} (h:Q0q w b T enc u l) (hb:Blk w g S cs) (ul:S ≠ T):Q0q (w.setCell ⟨g,k,none⟩ x) b T enc u l:=by
 obtain ⟨h1,h2⟩:=h;refine ⟨h1,?_⟩
 rcases h2 with h2 | ⟨g',Qq,cur,hv,Ux,Bj,r⟩
 . exact .inl h2
 . refine .inr ⟨g',Qq,cur,hv,Ux,?_,r⟩
   rw [Q3u w ⟨g,k,none⟩ x g' (fun e=>?_)]; exact Bj;have e':g'=g:=e;subst e';unfold Blk at hb;rw [hb] at Bj;injection Bj with h;injection h with _ h;exact ul h
def Q9m {α:Type} (w:World) (T:TypeId) (enc:α -> Value) (vs:List Value) (ll:List (List α)):Prop:=vs.length=ll.length /\ ∀ i,i < ll.length -> Q0q w 0 T enc (vs.getD i undef) (ll.getD i [])
section
variable {α:Type} {w w':World} {T:TypeId} {enc:α -> Value} {vs:List Value} {ll:List (List α)}
theorem Q9m.nil (w:World) (T:TypeId) (enc:α -> Value):Q9m w T enc [] []:=⟨rfl,fun _ hi=>absurd hi (Nat.not_lt_zero _)⟩
theorem Q9m.ext (h:Q9m w T enc vs ll) (hx:Ext w w'):Q9m w' T enc vs ll:=⟨h.1,fun i hi=>(h.2 i hi).below hx⟩
theorem Q9m.grown {β:Type} {b2:Nat} {E:TypeId} {enc':β -> Value} {v:Value} {us:List β} (h:Q9m w T enc vs ll) (ho:Q0q w b2 E enc' v us) (zG:T ≠ E) (hg:w.grownBy w' v.ownBlock):Q9m w' T enc vs ll :=
 ⟨h.1,fun i hi=>Y3v (h.2 i hi) ho zG hg⟩
theorem Q9m.snoc {v:Value} {l:List α} {b:Nat} (h:Q9m w T enc vs ll) (hv:Q0q w b T enc v l):Q9m w T enc (vs ++ [v]) (ll ++ [l]):=by
 refine ⟨by simp [h.1],fun i hi=>?_⟩
 by_cases Uq:i < ll.length
 . have e1:(vs ++ [v]).getD i undef=vs.getD i undef:=by simp [List.getD_eq_getElem?_getD,List.getElem?_append_left (show i < vs.length by rw [h.1]; exact Uq)]
   have e2:(ll ++ [l]).getD i []=ll.getD i []:=by simp [List.getD_eq_getElem?_getD,List.getElem?_append_left Uq]
   rw [e1,e2]; exact h.2 i Uq
 . have he:i=ll.length:=by simp at hi; omega
   subst he;have e1:(vs ++ [v]).getD ll.length undef=v:=by rw [<- h.1]; simp
   have e2:(ll ++ [l]).getD ll.length []=l:=by simp
   rw [e1,e2]; exact hv.weaken (Nat.zero_le _)
end
theorem Q9m.J8w {w:World} {T:TypeId} {vs:List Value} {ll:List (List Bool)} (h:Q9m w T .bool vs ll) (hl:∀ i,i < ll.length -> (ll.getD i []).length <= 17592186043904):X2c w vs ll:=⟨h.1,fun i hi=>(h.2 i hi).bools (hl i hi)⟩
end Go.Tw
namespace Go.Flow
open Go.RowKit Go.Tw
def Z9c (F:Fence) (n:Nat) (P:Program) (g:Nat) (lb:Array Value) (N:Nat) (R:Nat -> Value -> World -> Prop) (Kp:World -> World -> Prop) (w:World):Prop :=
 ∀ (l:Nat) (J:Nat -> World -> Prop) (W:World),Ext w W -> (∀ k A B,J k A -> Ext A B -> J k B) ->
  (∀ k v W1,k < N -> J k W1 -> R k v W1 -> YieldAt F (n - 1) P l #[v] W1 fun e W'=>e=.returned (.bool true) /\ J (k + 1) W' /\ Kp W1 W') ->
  J 0 W -> CallsIn F n P g (#[.func (.yield l) #[] #[]] ++ lb) W fun e W'=>(∃ v,e=.returned v) /\ J N W'
def Turns (B:Nat) (A A':World):Prop:=∃ l o o',B <= l /\ A.heap[l]?=some o /\ o.isCells=false /\ A'=A.putObj l o'
theorem Turns.cells {B:Nat} {A A':World} (h:Turns B A A') {b:Nat} {o:Obj} (hb:A.heap[b]?=some o) (hc:o.isCells=true):A'.heap[b]?=some o:=by
 obtain ⟨l,o1,o',hB,hl,hn,rfl⟩:=h;have hne:b ≠ l:=fun e=>by subst e; rw [hb] at hl; cases hl; rw [hc] at hn; cases hn
 rw [World.putObj_heap_other hne]; exact hb
theorem Turns.cell {B:Nat} {A A':World} (h:Turns B A A') {p:Addr} {v:Value} (hp:A.cell? p=some v):A'.cell? p=some v:=by
 have Uq:=World.block_lt_of_cell? A p hp;have hb:A.heap[p.block]?=some A.heap[p.block]:=Array.getElem?_eq_getElem Uq;have hc:A.heap[p.block].isCells=true:=by
  unfold World.cell? at hp;rw [hb] at hp;cases ho:A.heap[p.block] <;> rw [ho] at hp <;> simp_all [Obj.isCells]
 have mz:=h.cells hb hc;unfold World.cell? at hp ⊢;rw [mz]; rw [hb] at hp; exact hp
theorem X8j {W W':World} (h:Ext W W'):KeepsOthers W W':=⟨h.size,fun k o hk _=>by rw [h.block k (Array.getElem?_eq_some_iff.1 hk).1]; exact hk⟩
def J0b (Kp:World -> World -> Prop) (I:Nat -> World -> Prop) (k:Nat) (W:World):Exit -> Act -> World -> Prop
 | .normal,_,W'=>KeepsOthers W W' /\ Kp W W' /\ I (k + 1) W'
 | _,_,_=>False
theorem X2o {F:Fence} {n:Nat} {P:Program} {g:Operand} {ps:Array Tmp} {assign body:Code} {Q:Exit -> Act -> World -> Prop} {a:Act} {w:World}
    (rW:F.round=none) (h1:1 <= n) {gf:Nat} {lb:Array Value} (hg:a.eval g=.func (.func gf) #[] lb) (sl:F.fn gf) (eg:∀ args w,(callFunc gf args).run P w=.ok (.enter gf args) w)
    {N:Nat} {R:Nat -> Value -> World -> Prop} {Kp:World -> World -> Prop} (yG:Z9c F (n - 1) P gf lb N R Kp w) (pJ:ps.size=1)
    (qe:∀ {A B C:World},Kp A B -> Kp B C -> Kp A C) (pe:∀ {A A':World},Turns w.heap.size A A' -> Kp A A')
    (rl:∀ {k v} {A A':World},Turns w.heap.size A A' -> R k v A -> R k v A')
    (I:Nat -> World -> Prop) (oe:∀ k A B,I k A -> Ext A B -> I k B) (xG:∀ {k} {A A':World},Turns w.heap.size A A' -> I k A -> I k A') (h0:I 0 w) (a₁:Value -> Act)
    (V7:∀ (l:Nat) (v:Value) (W:World) (K:Act -> World -> Prop),K (a₁ v) W ->
     assign.wpIn (F.inRound l) (n - 1 - 1) P (Exit.then K (fun _ _ _=>False)) { tmps:=(ps.zip #[v]).foldl (fun t (p,v)=>t.setIfInBounds p v) a.tmps,defers:=[] } W)
    (XZ:∀ (l k:Nat) (v:Value) (W:World),k < N -> I k W -> R k v W -> body.wpIn (F.inRound l) (n - 1 - 1) P (J0b Kp I k W) (a₁ v) W)
    (Bz:∀ (D:Nat) (W:World),w.heap.size <= D -> I N W -> W.heap[D]?=some (.deferred (some [])) -> Q .normal { a with defers:={ target:=.collected D,args:=#[] } :: a.defers } W) :
    (Code.rangeFunc g ps assign body).wpIn F n P Q a w:=by
 refine wpIn_rangeFunc fun fn vG=>?_;rw [rW];obtain ⟨st,tj⟩:∃ st:LoopState -> Loop,st=fun s=>{ state:=s,pending:=none,fn,tmps:=a.tmps,params:=ps,assign,body,defers:=w.heap.size }:=⟨_,rfl⟩
 have stp:∀ s,(st s).pending=none:=fun s=>by rw [tj]
 have sts:∀ s,(st s).state=s:=fun s=>by rw [tj]
 have stu:∀ s s',({ (st s) with state:=s' }:Loop)=st s':=fun s s'=>by rw [tj]
 have ste:∀ s s',({ (st s) with state:=s',pending:=none }:Loop)=st s':=fun s s'=>by rw [tj]
 obtain ⟨W1,qW⟩:∃ W1,(w.alloc (.deferred (some []))).alloc (.loop (st .ready))=W1:=⟨_,rfl⟩;have aq:Ext w W1:=by rw [<- qW]; exact ((Ext.refl w).alloc _).alloc _
 have ql:W1.heap[w.heap.size]?=some (.deferred (some [])):=by
  rw [<- qW]; show ((w.heap.push _).push _)[w.heap.size]?=_; simp [Array.getElem?_push]
 have il:W1.heap[w.heap.size + 1]?=some (.loop (st .ready)):=by
  have:=World.alloc_heap_new (w.alloc (.deferred (some []))) (.loop (st .ready));rw [World.size_alloc] at this;rw [<- qW]; exact this
 refine ⟨w.heap.size + 1,[{ target:=.collected w.heap.size,args:=#[] }],W1,{ target:=.fn (.func gf) lb,args:=#[.func (.yield (w.heap.size + 1)) #[] #[]] },W1,gf,
  #[.func (.yield (w.heap.size + 1)) #[] #[]] ++ lb,W1,?_,?_,?_,?_,fun _=>h1,?_⟩
 . rw [<- qW,tj]; exact run_enterLoop_outer _ _ _ _ _
 . simp only [resolve,hg]; simp [go_sem]
 . intro f' ne; simp [Target.leads] at ne; subst ne; exact sl
 . simp [invoke,go_sem,eg]
 refine (yG (w.heap.size + 1) (fun k W=>I k W /\ W.heap[w.heap.size + 1]?=some (.loop (st .ready)) /\ W.heap[w.heap.size]?=some (.deferred (some []))) W1 aq ?grow ?round
  ⟨oe 0 _ _ h0 aq,il,ql⟩).mono ?done
 case grow =>
  rintro k A B ⟨hi,hl,hd⟩ hx;exact ⟨oe k A B hi hx,by rw [Below.block hx _ (Array.getElem?_eq_some_iff.1 hl).1]; exact hl,by rw [Below.block hx _ (Array.getElem?_eq_some_iff.1 hd).1]; exact hd⟩
 case round =>
  rintro k v W hk ⟨hi,hl,hd⟩ hr;have Uq:=(Array.getElem?_eq_some_iff.1 hl).1;have hy:=run_yield (P:=P) (args:=#[v]) hl (by rw [tj]; simp [pJ])
  rw [tj] at hy;refine ⟨fn,_,assign,body,hy,roundIn_of_wpIn vG (V7 _ v W _ ⟨_,run_beginRound hl (sts _),?_⟩)⟩;rw [stu];obtain ⟨V,hV⟩:∃ V,W.putObj (w.heap.size + 1) (.loop (st .busy))=V:=⟨_,rfl⟩;have zw:Turns w.heap.size W V:=⟨_,_,_,by omega,hl,rfl,hV.symm⟩
  have Qk:V.heap[w.heap.size + 1]?=some (.loop (st .busy)):=by rw [<- hV]; exact World.putObj_heap_same Uq
  have ke:V.heap[w.heap.size]?=some (.deferred (some [])):=by rw [<- hV]; exact (World.putObj_heap_other (by omega)).trans hd
  rw [hV];refine wpIn_mono (XZ _ k v V hk (xG zw hi) (rl zw hr)) ?_;rintro e a3 W3 hp;cases e with
  | normal =>
    obtain ⟨je,Oj,WZ⟩:=hp;have By:=je.same _ _ Qk rfl;have Dg:=run_endRound (P:=P) none By;refine ⟨_,_,Dg,rfl,?_,?_⟩
    . have e1:({ (st .busy) with state:=if (none:Option Code).isNone then .ready else .done,pending:=none }:Loop)=st .ready:=by rw [tj]; rfl
      rw [e1];have l9:Turns w.heap.size W3 (W3.putObj (w.heap.size + 1) (.loop (st .ready))):=⟨_,_,_,by omega,By,rfl,rfl⟩
      exact ⟨xG l9 WZ,World.putObj_heap_same (Array.getElem?_eq_some_iff.1 By).1,(World.putObj_heap_other (by omega)).trans (je.same _ _ ke rfl)⟩
    . exact qe (pe zw) (qe Oj (pe ⟨_,_,_,by omega,By,rfl,rfl⟩))
  | ret=>exact hp.elim
  | exit id=>exact hp.elim
  | goto t=>exact hp.elim
  | panic ch=>exact hp.elim
  | outgrown=>exact hp.elim
 case done =>
  rintro e W2 ⟨⟨v,rfl⟩,hi,hl,hd⟩;have he:=run_endLoop (P:=P) hl (by rw [sts]; simp)
  rw [stp] at he;exact ⟨none,_,he,Bz _ _ (Nat.le_refl _) (xG ⟨_,_,_,by omega,hl,rfl,rfl⟩ hi) ((World.putObj_heap_other (by omega)).trans hd)⟩
theorem Q6w {ops:Array Oper} {b:Act} {o:Oper} {j:Nat} {want:Bool} {d:Tmp} {T F:Prop} (hg:o.guard=some (j,want)) (hd:(ops[j]?).bind (·.dst)=some d) (oq:d < b.tmps.size) (hv:b.eval (.tmp d)=undef) (h:F):Guarded ops o b T F:=by
 unfold Guarded;rw [hg];refine .inr ⟨?_,h⟩;have h2:b.tmps[d]?=some undef:=by
  have:b.tmps.getD d undef=undef:=hv;rw [Array.getD_eq_getD_getElem?,Array.getElem?_eq_getElem oq] at this;rw [Array.getElem?_eq_getElem oq];exact congrArg some this
 unfold Region.wanted;rw [hg];show (yielded ops b.tmps j == some want)=_;have:yielded ops b.tmps j=none:=by
  unfold yielded;rw [hd];show (match b.tmps[d]? with | some (.bool b)=>some b | _=>none)=_
  rw [h2]; rfl
 rw [this]; rfl
theorem Turns.below {B n:Nat} {A A':World} (h:Turns B A A') (hn:n <= B):Below n A A':=by
 obtain ⟨l,o,o',hB,hl,_,rfl⟩:=h;have Uq:=(Array.getElem?_eq_some_iff.1 hl).1;refine Below.grown (Below.refl n A) (grownBy_putObj' A l o') (by omega) (fun k e=>by cases e; omega)
theorem Turns.own {α:Type} {B b:Nat} {A A':World} (h:Turns B A A') {T:TypeId} {enc:α -> Value} {v:Value} {l:List α} (ho:Q0q A b T enc v l):Q0q A' b T enc v l:=by
 obtain ⟨h1,h2⟩:=ho;refine ⟨h1,?_⟩
 rcases h2 with h2 | ⟨g,Qq,cur,hv,Ux,Bj,r⟩
 . exact .inl h2
 . exact .inr ⟨g,Qq,cur,hv,Ux,h.cells Bj rfl,r⟩
theorem Turns.blk {B g:Nat} {A A':World} (h:Turns B A A') {T:TypeId} {cs:Array Value} (hb:Blk A g T cs):Blk A' g T cs:=h.cells hb rfl
theorem Turns.same {B b:Nat} {A A':World} (h:Turns B A A') (hb:b < B):A'.heap[b]?=A.heap[b]?:=by
 obtain ⟨l,o,o',hB,hl,_,rfl⟩:=h;exact World.putObj_heap_other (by omega)
end Go.Flow
namespace Go.Proofs
open Go.RowKit Go.Tw Go.Flow Tryz
attribute [local go_sem] Oper.semAt_some
theorem J8e {n:Nat} (h:n < 62):wrap64 (2 ^ n)=((2 ^ n:Nat):Int):=by
 have h1:(2:Nat) ^ n < 2 ^ 62:=Nat.pow_lt_pow_right (by omega) h
 have h2:((2 ^ n:Nat):Int)=2 ^ n:=by simp
 rw [<- h2];obtain ⟨m,hm⟩:∃ m,2 ^ n=m:=⟨_,rfl⟩;rw [hm] at h1 ⊢;unfold wrap64; omega
theorem J0o {s:Nat} (hs:s < 2 ^ 62) (i:Nat):(bits .and .i64 ((s:Int) / 2 ^ i) 1 == 1)=s.testBit i:=by
 have h1:(s:Int) / 2 ^ i=((s / 2 ^ i:Nat):Int):=by simp
 have h2:bits .and .i64 ((s / 2 ^ i:Nat):Int) 1=((s / 2 ^ i &&& 1:Nat):Int):=K0n (a:=s / 2 ^ i) (b:=1) (Nat.lt_of_le_of_lt (Nat.div_le_self _ _) hs) (by decide)
 rw [h1,h2,Nat.and_one_is_mod,K0f];have h3:s / 2 ^ i % 2=0 ∨ s / 2 ^ i % 2=1:=by omega
 rcases h3 with h | h <;> rw [h] <;> rfl
theorem Y5t (w:World) (n:Int) :
    Calls prog 112 #[.int .i64 n] w fun e w'=>e=.returned (.func (.func 170) #[] #[.pointer (some ⟨w.heap.size,0,none⟩)]) /\ Blk w' w.heap.size 3 #[.int .i64 n] /\ w'.heap.size=w.heap.size + 1 /\ Ext w w':=by
 go_enter func112,ntmps112;go_wp2;go_ret;exact ⟨rfl,Blk.made _ _ _,by simp,Ext.box _ _⟩
def X6y (n T k:Nat):List Bool:=(List.range k).map fun i=>n.testBit (T - 1 - i)
theorem Z0i (n T k:Nat):X6y n T (k + 1)=X6y n T k ++ [n.testBit (T - 1 - k)]:=by unfold X6y; rw [List.range_succ,List.map_append]; rfl
theorem Z7g (n T k:Nat):(X6y n T k).length=k:=by simp [X6y]
theorem Z5r (n T:Nat):X6y n T T=Q6n n T:=rfl
def J4l (Be:Nat) (A B:World):Prop:=B.heap[Be]?=A.heap[Be]?
theorem X6a (m Be T:Nat) (w:World) (hT:T <= 8) (hb:Blk w Be 3 #[.int .i64 (T:Int)]) :
    Z9c Fence.wide m prog 170 #[.pointer (some ⟨Be,0,none⟩)] (2 ^ T) (fun k v W=>Q0q W 0 4 .bool v (Q6n k T)) (J4l Be) w:=by
 obtain ⟨i0,hi,dq,fq,Zj⟩:=info_parts Y4m;intro l J W hW hJ hY h0;have uG:=hb.ext hW;have Wq:W.cell? ⟨Be,0,none⟩=some (.int .i64 (T:Int)):=uG.cell 0;have p1:=J8e (n:=T) (by omega)
 obtain ⟨N,hN⟩:∃ N,2 ^ T=N:=⟨_,rfl⟩;rw [hN] at p1 hY ⊢;have Yr:N <= 256:=by rw [<- hN]; exact Nat.pow_le_pow_right (n:=2) (by omega) hT
 have V4:=hid uG;clear hb uG hN hW;refine callsIn_of_wp func170 rfl trivial ?_ rfl;simp only [ntmps170,List.size_toArray,List.length_cons,List.length_nil,Nat.reduceAdd,Nat.reduceSub,Array.replicate_succ,Array.replicate_zero,List.push_toArray,List.append_toArray,List.nil_append,List.cons_append]
 gi_wp2
 clear Wq
 gi_loopw [8] (fun p wr=>∃ k:Nat,k <= N /\ p=.int .i64 k /\ J k wr /\ Blk wr Be 3 #[.int .i64 (T:Int)]) (fun p _=>N - (intOf p).toNat)
 case atStart=>exact ⟨0,Nat.zero_le _,rfl,h0,V4.out⟩
 case round =>
  obtain ⟨k,hk,rfl,pW,xj⟩:=hrel
  by_cases Uq:k < N
  . have zj:(k:Int) < N:=by omega
    have L2:wr.cell? ⟨Be,0,none⟩=some (.int .i64 (T:Int)):=xj.cell 0;have ly:=hid xj;have tG:=hid pW;have HY:=hid (fun v W1 h1 h2=>hY k v W1 Uq h1 h2);clear pW xj;obtain ⟨wo,rfl⟩:∃ X,X=wr:=⟨_,rfl⟩
    gi_wp2
    clear L2
    gi_loopw [4,12] (fun o t w2=>∃ j:Nat,j <= T /\ t=.int .i64 j /\ Q0q w2 wo.heap.size 4 .bool o (X6y k T j) /\ Ext wo w2) (fun _ t _=>T - (intOf t).toNat)
    case atStart=>exact ⟨0,Nat.zero_le _,rfl,Q0q.nil _ _ _ _,Ext.refl _⟩
    case round =>
     obtain ⟨j,hj,rfl,Yq,Nq⟩:=hrel;have j9:=ly.out.ext Nq;have Yx:wr.cell? ⟨Be,0,none⟩=some (.int .i64 (T:Int)):=j9.cell 0
     by_cases Wr:j < T
     . have M8:(j:Int) < T:=by omega
       have Q1:IntKind.i64.wrap ((T:Int) - 1)=(T:Int) - 1:=Q2j _ (by omega) (by omega)
       have J9:IntKind.i64.wrap ((T:Int) - 1 - (j:Int))=(T:Int) - 1 - (j:Int):=Q2j _ (by omega) (by omega)
       have oJ:((T:Int) - 1 - (j:Int)).toNat=T - 1 - j:=by omega
       have Vr:¬ (T:Int) - 1 - (j:Int) < 0:=by omega
       have ie:min (T - 1 - j) 64=T - 1 - j:=by omega
       have yz:=J0o (s:=k) (by omega) (T - 1 - j)
       have oW:=hid (Z0i k T j);obtain ⟨q,hq⟩:∃ x,k.testBit (T - 1 - j)=x:=⟨_,rfl⟩;rw [hq] at yz oW;have Bw:(X6y k T j).length <= 4096:=by rw [Z7g]; omega
       clear hq j9
       gi_wp2_with (gi_at_builtin; refine wpListIn_append_own _ rfl _ _ 82 rfl (wo.heap.size) 4 i0 (.bool false) 1 1 underlying82 hi dq fq Zj rfl (by decide) _ _ _ rfl (World.ownsRow.alloc Yq _) ⟨wr.heap.size,0,none⟩ 1 1 [.bool q] rfl rfl ?_ ?_ ?_ ?_ ?_ ?_; exact Q5y _ _ _; (focus (simp [Value.oneCell'])); (focus (unfold maxLen; omega)); (focus omega); (focus (have:=Nq.size; simp at this ⊢; omega)); intro v' w1 Oq Pq _)
       have hx':=Q3r Nq Yq (Nat.le_refl _) Pq;go_roundw
       case rel=>exact ⟨j + 1,by omega,by go_num,by rw [oW.out]; exact Q0q.snoc Oq,hx'⟩
       case measure=>simp [intOf]; omega
     . have M8:¬ (j:Int) < T:=by omega
       have U7:j=T:=by omega
       subst U7;have kq:=hid Yq;have Wz:=hid Nq;have sG:=hid (hJ _ _ _ tG.out Nq);have fl:=HY.out _ wr sG.out (by rw [<- Z5r]; exact Yq.weaken (Nat.zero_le _))
       obtain ⟨fn,tmps,assign,body,hy,hR⟩:=fl;clear Yq Nq j9
       gi_wp2
       refine ⟨fun h=>by simp [Fence.wide] at h,hR.mono ?_⟩
       rintro e W3 ⟨rfl,ee,Oj⟩;have zk:Blk W3 Be 3 #[.int .i64 (j:Int)]:=by
        have h:=ly.out.ext Wz.out;unfold Blk at h ⊢;unfold J4l at Oj;rw [Oj]; exact h
       have O1:=hid zk;have rG:=hid ee;clear ee zk Oj
       gi_wp2
       go_roundw
       case rel=>exact ⟨k + 1,by omega,by go_num,rG.out,O1.out⟩
       case measure=>simp [intOf]; omega
  . have zj:¬ (k:Int) < N:=by omega
    have lj:k=N:=by omega
    subst lj;have tG:=hid pW;clear pW
    gi_wp2
    go_end0
    exact ⟨⟨_,rfl⟩,tG.out⟩
end Go.Proofs
namespace Go.Tw
theorem Q2p {p:List Rul} {k:Nat} (hk:k < p.length):Q0m p k=p[k].classes:=by unfold Q0m; rw [Q0u _ hk]
theorem X3l {p:List Rul} {k:Nat} (hk:k < p.length):Q2h p k=p[k].close:=by unfold Q2h; rw [Q0u _ hk]
theorem Z1o:∀ {p:List Rul} {k:Nat},(p.map Rul.classes).Nodup -> k < p.length -> look p (Q0m p k)=Q2h p k
 | [],k,_,hk=>absurd hk (Nat.not_lt_zero _)
 | r :: p,0,_,_=>by unfold look Q0m Q2h; simp
 | r :: p,k + 1,hn,hk=>by
   rw [List.map_cons,List.nodup_cons] at hn;have hk':k < p.length:=by simpa using hk
   have e1:Q0m (r :: p) (k + 1)=Q0m p k:=rfl;have e2:Q2h (r :: p) (k + 1)=Q2h p k:=rfl;rw [e1,e2,<- Z1o hn.2 hk'];have hne:(r.classes == Q0m p k)=false:=by
    rw [beq_eq_false_iff_ne];intro e;exact hn.1 (by rw [e,Q2p hk']; exact List.mem_map_of_mem (List.getElem_mem hk'))
   unfold look;rw [List.find?_cons,hne]
theorem X0r (p:List Rul) (n:Nat):(Q1u p n).length=p.length:=by simp [Q1u]
theorem X6w (p:List Rul) (n:Nat):(Q1u p n).map Rul.classes=p.map Rul.classes:=by
 refine List.ext_getElem (by simp [Q1u]) fun i h1 h2=>?_
 have hi:i < p.length:=by simpa using h2
 simp [Q1u,Q2p hi]
theorem J6t {p:List Rul} {n k:Nat} (hk:k < p.length):Q0m (Q1u p n) k=Q0m p k /\ Q2h (Q1u p n) k=(Q2h p k != (k == n)):=by
 have qG:k < (Q1u p n).length:=by rw [X0r]; exact hk
 rw [Q2p qG,X3l qG];simp [Q1u]
theorem X0t {h:List (List Int)} {p:List Rul} {n:Nat} (hp:Q0x h p=0):Q0x h (Q1u p n)=0:=by
 rw [Q1n] at hp ⊢;rw [X6w,hp]
theorem J1g {p:List Rul} {n:Nat} {h:List Int} (hn:(p.map Rul.classes).Nodup) (hr:n < p.length) (hm:h ∈ p.map Rul.classes):look (Q1u p n) h=(look p h != (h == Q0m p n)):=by
 obtain ⟨x,hx,rfl⟩:=List.mem_map.1 hm;obtain ⟨k,hk,rfl⟩:=List.getElem_of_mem hx;rw [<- Q2p hk,Z1o hn hk];have hf:=J6t (n:=n) hk;have U8:((Q1u p n).map Rul.classes).Nodup:=by rw [X6w]; exact hn
 have h2:=Z1o U8 (show k < (Q1u p n).length by rw [X0r]; exact hk)
 rw [hf.1,hf.2] at h2;rw [h2]
 congr 1
 rw [Bool.eq_iff_iff,beq_iff_eq,beq_iff_eq]
 constructor
 . rintro rfl; rfl
 . intro e
   rw [Q2p hk,Q2p hr] at e;have VZ:=List.pairwise_iff_getElem.1 hn;have e2:(p.map Rul.classes)[k]'(by simpa using hk)=(p.map Rul.classes)[n]'(by simpa using hr):=by simpa using e
   rcases Nat.lt_trichotomy k n with h | h | h
   . exact absurd e2 (VZ k n (by simpa using hk) (by simpa using hr) h)
   . exact h
   . exact absurd e2.symm (VZ n k (by simpa using hr) (by simpa using hk) h)
theorem Y4k {s:Q0b} (hs:s.Shaped) {p:List Rul} (hp:Q0x s.hist p=0) {n i t:Nat} (hr:n < p.length) (hi:i < s.members.length) (ht:t < s.ships.length) :
    look (Q1u p n) ((Q0c s.members i).take (t + 1))=(look p ((Q0c s.members i).take (t + 1)) != ((Q0c s.members i).take (t + 1) == Q0m p n)):=by
 have he:=Q1n.1 hp;refine J1g (by rw [he]; exact Y9i (Q0b.Y6c hs)) hr ?_
 rw [he];exact (Q0b.Q4k _ _).2 ⟨t,ht,i,hi,rfl⟩
end Go.Tw
namespace Go.Tw
open Go.RowKit Go.Flow
def X2z (s:ByteArray):List (ByteArray × Value) -> Option Value
 | []=>none
 | p :: l=>if (s == p.1)=true then some p.2 else X2z s l
def Y7n (s:ByteArray) (v:Value):List (ByteArray × Value) -> List (ByteArray × Value)
 | []=>[(s,v)]
 | p :: l=>if (s == p.1)=true then (s,v) :: l else p :: Y7n s v l
def Q5b (w:World) (b:Nat) (l:List (ByteArray × Value)):Prop :=
 ∃ a clock,w.heap[b]?=some (.map a clock) /\ a.toList.map (fun e=>(e.key,e.val))=l.map fun p=>(Value.string p.1,p.2)
theorem Q5b.made (w:World):Q5b (w.alloc (.map #[] 0)) w.heap.size []:=⟨#[],0,by show (w.heap.push _)[w.heap.size]?=_; simp,rfl⟩
theorem Q5b.ext {w w':World} {b:Nat} {l:List (ByteArray × Value)} (h:Q5b w b l) (hx:Ext w w'):Q5b w' b l:=by
 obtain ⟨a,c,hb,he⟩:=h;exact ⟨a,c,by rw [Below.block hx b (Array.getElem?_eq_some_iff.1 hb).1]; exact hb,he⟩
theorem Q5b.lt {w:World} {b:Nat} {l:List (ByteArray × Value)} (h:Q5b w b l):b < w.heap.size:=by
 obtain ⟨a,c,hb,_⟩:=h;exact (Array.getElem?_eq_some_iff.1 hb).1
theorem X9x (s:ByteArray):∀ (es:List MapEntry) (l:List (ByteArray × Value)) (i:Nat),es.map (fun e=>(e.key,e.val))=l.map (fun p=>(Value.string p.1,p.2)) ->
    ∃ r,Instr.findNow .string (.string s) es i=some r /\ r.map (·.2)=X2z s l
 | [],[],i,_=>⟨none,rfl,rfl⟩
 | [],_ :: _,_,h=>by simp at h
 | _ :: _,[],_,h=>by simp at h
 | e :: es,p :: l,i,h=>by
   simp only [List.map_cons,List.cons.injEq,Prod.mk.injEq] at h;obtain ⟨⟨h1,h2⟩,h3⟩:=h;unfold Instr.findNow X2z;simp only [h1,Instr.sameNow,h2];cases hs:(s == p.1) with
   | true=>exact ⟨some (i,p.2),by simp,by simp⟩
   | false =>
     obtain ⟨r,hr,hf⟩:=X9x s es l (i + 1) h3;exact ⟨r,by simpa using hr,by simpa using hf⟩
theorem J3r (s:ByteArray):(s == s)=true:=str_eq rfl
theorem J6d {a b:ByteArray} (h:(a == b)=true):a=b:=by
 cases hb:decide (a=b) with
 | true=>exact of_decide_eq_true hb
 | false=>rw [X3c (of_decide_eq_false hb)] at h; cases h
theorem Y3k (s:ByteArray):∀ (es:List MapEntry) (l:List (ByteArray × Value)) (i:Nat),es.map (fun e=>(e.key,e.val))=l.map (fun p=>(Value.string p.1,p.2)) ->
    (Instr.findNow .string (.string s) es i=some none /\ ∀ v,Y7n s v l=l ++ [(s,v)]) ∨
    (∃ j x,Instr.findNow .string (.string s) es i=some (some (i + j,x)) /\ j < es.length /\ (∃ e,es[j]?=some e /\ e.key=.string s) /\ ∀ v e,e.key=Value.string s -> e.val=v ->
     (es.set j e).map (fun e=>(e.key,e.val))=(Y7n s v l).map (fun p=>(Value.string p.1,p.2)))
 | [],[],i,_=>.inl ⟨rfl,fun v=>rfl⟩
 | [],_ :: _,_,h=>by simp at h
 | _ :: _,[],_,h=>by simp at h
 | e :: es,p :: l,i,h=>by
   simp only [List.map_cons,List.cons.injEq,Prod.mk.injEq] at h;obtain ⟨⟨h1,h2⟩,h3⟩:=h;cases hs:(s == p.1) with
   | true =>
     have B0:=J6d hs;refine .inr ⟨0,e.val,?_,by simp,⟨e,rfl,by rw [h1,B0]⟩,fun v e' h4 h5=>?_⟩
     . unfold Instr.findNow
       simp only [h1,Instr.sameNow,hs]; rfl
     . unfold Y7n
       rw [if_pos hs];simp [h4,h5,h3]
   | false =>
     have hn:¬ (s == p.1)=true:=by rw [hs]; simp
     rcases Y3k s es l (i + 1) h3 with ⟨ha,hb⟩ | ⟨j,x,ha,hj,⟨e0,pG,Ak⟩,hb⟩
     . refine .inl ⟨?_,fun v=>?_⟩
       . unfold Instr.findNow
         simp only [h1,Instr.sameNow,hs]; exact ha
       . unfold Y7n
         rw [if_neg hn,hb v]; rfl
     . refine .inr ⟨j + 1,x,?_,by simp; omega,⟨e0,by simpa using pG,Ak⟩,fun v e' h4 h5=>?_⟩
       . unfold Instr.findNow
         simp only [h1,Instr.sameNow,hs];rw [show i + (j + 1)=i + 1 + j from by omega]; exact ha
       . unfold Y7n
         rw [if_neg hn];simp only [List.set_cons_succ,List.map_cons,h1,h2];rw [hb v e' h4 h5]
theorem X6i {P:Program} {w:World} {r:Nat} {es:Array MapEntry} {clock:Nat} (hb:w.heap[r]?=some (.map es clock)):(getObj r).run P w=.ok (.map es clock) w:=by
 simp [getObj,Sem.run,hb]
theorem Y2i {P:Program} {w:World} {r:Nat} {es:Array MapEntry} {clock:Nat} (o:Obj) (hb:w.heap[r]?=some (.map es clock)):(setObj r o).run P w=.ok () { w with heap:=w.heap.setIfInBounds r o }:=by
 simp [setObj,Sem.run,hb]
theorem X5o {P:Program} {w:World} {k:TypeId} (hk:P.underlying k=some .string) (e:Bool) (s:ByteArray) (n:Nat):(Instr.checkKey e (n + 1) k (.string s)).run P w=.ok () w:=by
 unfold Instr.checkKey;simp only [Sem.run_bind,run_underlying hk,Result.andThen_ok,Sem.run_pure]
theorem Y2g {P:Program} {w:World} {b:Nat} {l:List (ByteArray × Value)} (h:Q5b w b l) {t k e:TypeId} (ht:P.underlying t=some (.map k e)) (hk:P.underlying k=some .string) {z:Value} (hz:(zeroValue e).run P w=.ok z w) (s:ByteArray) (ok:Bool) :
    (Instr.lookup t (.map (some b)) (.string s) ok).run P w=.ok (if ok then .tuple #[(X2z s l).getD z,.bool (X2z s l).isSome] else (X2z s l).getD z) w:=by
 obtain ⟨a,clock,hb,he⟩:=h;obtain ⟨r,hr,hf⟩:=X9x s a.toList l 0 he;unfold Instr.lookup;simp only [Sem.run_bind,run_underlying ht,Result.andThen_ok,X6i hb,Sem.run_pure,X5o hk _ s 9999,Instr.findKey,run_underlying hk,hr];rw [<- hf];cases r with
 | none=>simp only [Sem.run_bind,hz,Result.andThen_ok,Sem.run_pure]; cases ok <;> rfl
 | some p=>cases ok <;> rfl
theorem Y0m {P:Program} {w:World} {b:Nat} {l:List (ByteArray × Value)} (h:Q5b w b l) {t k e:TypeId} (ht:P.underlying t=some (.map k e)) (hk:P.underlying k=some .string) (s:ByteArray) (v:Value) :
    ∃ w',(Instr.mapUpdate t (.map (some b)) (.string s) v).run P w=.ok () w' /\ Q5b w' b (Y7n s v l) /\ (∀ n,n <= b -> Below n w w') /\ w.grownBy w' (some b):=by
 obtain ⟨a,clock,hb,he⟩:=h;have Uq:=(Array.getElem?_eq_some_iff.1 hb).1;have ej:∀ o n,n <= b -> Below n w { w with heap:=w.heap.setIfInBounds b o }:=fun o n hn =>
  ⟨rfl,rfl,rfl,by simp,fun k hk'=>by show (w.heap.setIfInBounds b o)[k]?=_; rw [Array.getElem?_setIfInBounds_ne (by omega)]⟩
 have Qw:∀ o,w.grownBy { w with heap:=w.heap.setIfInBounds b o } (some b):=fun o =>
  ⟨rfl,rfl,rfl,by simp,fun k _ hk'=>by show (w.heap.setIfInBounds b o)[k]?=_; rw [Array.getElem?_setIfInBounds_ne (fun e=>hk' (by rw [e]))]⟩
 rcases Y3k s a.toList l 0 he with ⟨hr,hp⟩ | ⟨j,x,hr,hj,⟨e0,pG,Ak⟩,hp⟩
 . refine ⟨{ w with heap:=w.heap.setIfInBounds b (.map (a.push ⟨.string s,v,clock⟩) (clock + 1)) },?_,⟨a.push ⟨.string s,v,clock⟩,clock + 1,?_,?_⟩,ej _,Qw _⟩
   . unfold Instr.mapUpdate
     simp only [Sem.run_bind,run_underlying ht,Result.andThen_ok,X6i hb,Sem.run_pure,X5o hk _ s 9999,Instr.findKey,run_underlying hk,hr];exact Y2i _ hb
   . show (w.heap.setIfInBounds b _)[b]?=_; simp [Uq]
   . rw [hp v]; simp [he]
 . rw [Nat.zero_add] at hr
   have UZ:a[j]?=some e0:=by simpa using pG
   refine ⟨{ w with heap:=w.heap.setIfInBounds b (.map (a.modify j fun e=>{ e with key:=.string s,val:=v }) clock) },?_,⟨a.modify j fun e=>{ e with key:=.string s,val:=v },clock,?_,?_⟩,ej _,Qw _⟩
   . unfold Instr.mapUpdate
     simp only [Sem.run_bind,run_underlying ht,Result.andThen_ok,X6i hb,Sem.run_pure,X5o hk _ s 9999,Instr.findKey,run_underlying hk,hr,UZ,Option.map_some,Option.getD_some,Ak];have E9:(Instr.keyThatStays (.string s) (.string s)).run P w=.ok (.string s) w:=by
      unfold Instr.keyThatStays;rw [if_pos (by unfold Instr.sameBits; exact J3r s)]; rfl
     simp only [E9,Result.andThen_ok];exact Y2i _ hb
   . show (w.heap.setIfInBounds b _)[b]?=_; simp [Uq]
   . have:=hp v { e0 with key:=.string s,val:=v } rfl rfl
     rw [<- this]
     congr 1
     apply List.ext_getElem?
     intro i;rw [Array.getElem?_toList,Array.getElem?_modify,List.getElem?_set]
     by_cases hij:j=i
     . subst hij
       have bl:j < a.size:=by simpa using hj
       simp only [UZ,Option.map_some,if_true,Array.length_toList,bl]
     . simp [hij]
end Go.Tw
namespace Go.Tw
open Go.RowKit
theorem Y7d (s k:ByteArray) (v:Value):∀ l,X2z k (Y7n s v l)=if k=s then some v else X2z k l
 | []=>by
   unfold Y7n X2z
   by_cases h:k=s
   . rw [if_pos (str_eq h),if_pos h]
   . rw [if_neg (by rw [X3c h]; simp),if_neg h]; rfl
 | p :: l=>by
   unfold Y7n
   by_cases hs:s=p.1
   . rw [if_pos (str_eq hs)]
     by_cases h:k=s
     . simp only [X2z]; rw [if_pos (str_eq h),if_pos h]
     . simp only [X2z]; rw [if_neg (by rw [X3c h]; simp),if_neg h,if_neg (by rw [<- hs,X3c h]; simp)]
   . rw [if_neg (by rw [X3c hs]; simp)]
     simp only [X2z]
     by_cases hk:k=p.1
     . rw [if_pos (str_eq hk),if_pos (str_eq hk),if_neg (fun e=>hs (by rw [<- e,hk]))]
     . have h1:¬ (k == p.1)=true:=by rw [X3c hk]; simp
       rw [if_neg h1,Y7d s k v l]
       by_cases h:k=s
       . rw [if_pos h,if_pos h]
       . rw [if_neg h,if_neg h,if_neg h1]
def Q5p (p:List Rul):Nat -> List (ByteArray × Value)
 | 0=>[]
 | k + 1=>Y7n (Q6j (Q0m p k)) (.bool (Q2h p k)) (Q5p p k)
theorem J1a (p:List Rul) (r:Rul) (h:List Int) (hn:h=r.classes -> h ∉ p.map Rul.classes):look (p ++ [r]) h=if h=r.classes then r.close else look p h:=by
 unfold look;rw [List.find?_append]
 by_cases he:h=r.classes
 . have h0:p.find? (fun x=>x.classes == h)=none:=by
    rw [List.find?_eq_none];intro x hx Ry;exact hn he (List.mem_map.2 ⟨x,hx,by simpa using Ry⟩)
   rw [h0,if_pos he];simp [he]
 . rw [if_neg he]
   have h1:(r.classes == h)=false:=by rw [beq_eq_false_iff_ne]; exact fun e=>he e.symm
   cases hf:p.find? (fun x=>x.classes == h) with
   | some x=>simp
   | none=>simp [h1]
theorem Z3f {p:List Rul} (hn:(p.map Rul.classes).Nodup) (hd:∀ k,k < p.length -> Digits (Q0m p k)) {h:List Int} (hh:Digits h) :
    ∀ k,k <= p.length -> (X2z (Q6j h) (Q5p p k)).getD (.bool false)=.bool (look (p.take k) h)
 | 0,_=>rfl
 | k + 1,hk=>by
   have Uq:k < p.length:=by omega
   rw [Q5p,Y7d,List.take_succ_eq_append_getElem Uq];have oG:h=p[k].classes -> h ∉ (p.take k).map Rul.classes:=by
    rintro rfl hm;obtain ⟨x,hx,he⟩:=List.mem_map.1 hm;obtain ⟨j,hj,rfl⟩:=List.getElem_of_mem hx;rw [List.length_take] at hj;rw [List.getElem_take] at he;have VZ:=List.pairwise_iff_getElem.1 hn j k (by simp; omega) (by simpa using Uq) (by omega)
    simp only [List.getElem_map] at VZ;exact VZ he
   rw [J1a _ _ _ oG]
   by_cases he:h=p[k].classes
   . rw [if_pos he,if_pos (by rw [he,Q2p Uq]),X3l Uq]; rfl
   . rw [if_neg he,if_neg (fun e=>he (by rw [Z3j hh (hd k Uq) e,Q2p Uq]))]
     exact Z3f hn hd hh k (by omega)
theorem Y8q {p:List Rul} (hn:(p.map Rul.classes).Nodup) (hd:∀ k,k < p.length -> Digits (Q0m p k)) {h:List Int} (hh:Digits h) :
    (X2z (Q6j h) (Q5p p p.length)).getD (.bool false)=.bool (look p h):=by
 rw [Z3f hn hd hh _ (Nat.le_refl _),List.take_length]
end Go.Tw
namespace Go.Proofs
open Go.RowKit Go.Tw Go.Flow Tryz
theorem Tryz.J9h:(prog.info? 5).map (fun i=>(i.zero,i.size,i.bytes))=some (some (.int .u8 0),1,1):=by kernel_rfl
theorem Z9t (W:World) (x:Int) (h:0 <= x /\ x <= 9) :
    Calls prog 165 #[.int .i64 x] W fun e W'=>e=.returned (.int .u8 x) /\ W=W':=by
 have hc:(convert 3 5 (.int .i64 x)).run prog W=.ok (.int .u8 x) W:=by
  have hw:IntKind.u8.wrap x=x:=by simp [IntKind.wrap,IntKind.bits,IntKind.signed]; omega
  have h1:prog.underlying 3=some (.int .i64):=by kernel_rfl
  have h2:prog.underlying 5=some (.int .u8):=by kernel_rfl
  simp [convert,run_underlying h1,run_underlying h2,Conv.intToInt,hw]
 go_enter func165,ntmps165;go_wp2;go_ret;exact ⟨rfl,rfl⟩
theorem J3y (l:List Int) {k:Nat} (hk:k < l.length):l.take k ++ [ix l k]=l.take (k + 1):=by
 rw [List.take_succ_eq_append_getElem hk,Q5g hk]
theorem Y2a (w:World) (v:Value) (l:List Int) (hv:Q0g w v l) (Uv:l.length <= 4096) (hd:Digits l) :
    Calls prog 164 #[v,.func (.func 165) #[] #[]] w fun e w'=>∃ x,e=.returned x /\ Q0q w' w.heap.size 5 (.int .u8) x l /\ Ext w w':=by
 obtain ⟨i0,hi,dq,fq,Zj⟩:=info_parts J9h;obtain ⟨A,Qq,rfl,hl,Kq,hc⟩:=hv.opened;have HC:=hid hc;have HD:=hid hd;clear hv hc hd;go_enter func164,ntmps164;go_wp2
 go_loopw [5,10] (fun o i wr=>∃ (k:Nat),k <= l.length /\ i=.int .i64 k /\ Q0q wr w.heap.size 5 (.int .u8) o (l.take k) /\ Ext w wr) (fun _ i _=>l.length - (intOf i).toNat)
 case atStart=>exact ⟨0,Nat.zero_le _,rfl,Q0q.nil _ _ _ _,Ext.refl _⟩
 case round =>
  obtain ⟨k,hk,rfl,Yq,hx⟩:=hrel;have Dq:(l.take k).length=k:=by rw [List.length_take]; omega
  by_cases Uq:k < l.length
  . obtain ⟨b,off,rfl,Wq⟩:=HC.out k Uq
    have az:=hid (J3y l Uq);have nW:=HD.out (ix l k) (by rw [Q5g Uq]; exact List.getElem_mem Uq)
    obtain ⟨s,hs⟩:∃ s,ix l k=s:=⟨_,rfl⟩;rw [hs] at Wq az nW;have Y7:=hid (Z9t wr s nW);replace Wq:=hx.cell Wq;have Bw:(l.take k).length <= 4096:=by omega
    clear hs Dq nW;go_wp2_with (first | (refine Y7.out.mono ?_; rintro e w9 ⟨rfl,rfl⟩) | (at_builtin; refine wpList_append_own _ rfl _ _ 212 rfl (w.heap.size) 5 i0 (.int .u8 0) 1 1 underlying212 hi dq fq Zj rfl (by decide) _ _ _ rfl (World.ownsRow.alloc Yq _) ⟨wr.heap.size,0,none⟩ 1 1 [.int .u8 s] rfl rfl ?_ ?_ ?_ ?_ ?_ ?_; exact Q5y _ _ _; (focus (simp [Value.oneCell'])); (focus (unfold maxLen; omega)); (focus omega); (focus (have:=hx.size; simp at this ⊢; omega)); intro v' w1 Oq Pq _))
    have hx':=Q3r hx Yq (Nat.le_refl _) Pq;go_wp2;go_roundw
    case rel=>exact ⟨k + 1,by omega,by go_num,by rw [<- az.out]; exact Q0q.snoc Oq,hx'⟩
    case measure=>simp [intOf]; omega
  . have HE:Hid (l.take k=l):=hid (List.take_of_length_le (by omega))
    rw [HE.out] at Yq;have Rz:=hid Yq;clear Yq Dq;go_wp2;go_ret;exact ⟨_,rfl,Rz.out,hx⟩
theorem Y6a (w:World) {base:Nat} {u:Value} {l:List Int} (hu:Q0q w base 5 (.int .u8) u l) :
    (convert 212 9 u).run prog w=.ok (.string (Q6j l)) w:=by
 have h1:prog.underlying 212=some (.slice 5):=by kernel_rfl
 have h2:prog.underlying 5=some (.int .u8):=by kernel_rfl
 have h3:prog.underlying 9=some .string:=by kernel_rfl
 rcases hu.cells2 with ⟨rfl,rfl⟩ | ⟨g,c,rfl,-,-,-,Wq⟩
 . rw [run_convert_bytes_nil w _ _ h1 h2 0 0 _ h3]; rfl
 . rw [run_convert_bytes_arg w _ _ h1 h2 g 0 l.length c l rfl (fun i hi=>by rw [Wq i hi]; simp [hi]) _ h3]; rfl
theorem X9b (w:World) (v:Value) (l:List Int) (hv:Q0g w v l) (Uv:l.length <= 4096) (hd:Digits l) :
    Calls prog 102 #[v] w fun e w'=>e=.returned (.string (Q6j l)) /\ Ext w w':=by
 have HM:=hid (Y2a w v l hv Uv hd);obtain ⟨A,Qq,rfl,-,-,-⟩:=hv.opened;clear hv hd;go_enter func102,ntmps102;go_wp2_with fail;refine HM.out.mono ?_;rintro e w5 ⟨u,rfl,hu,yq⟩;have N1:=Y6a w5 hu;have HX:=hid yq;clear hu yq;go_wp2;go_ret;exact ⟨rfl,HX.out⟩
end Go.Proofs
namespace Go.Proofs
open Go.RowKit Go.Tw Go.Flow Tryz
attribute [local go_sem] Oper.semAt_some
theorem Z7q:prog.underlying 245=some (.map 9 4):=by kernel_rfl
theorem J5c:prog.underlying 9=some .string:=by kernel_rfl
theorem J8p (w:World):(zeroValue 4).run prog w=.ok (.bool false) w:=by kernel_rfl
theorem J7j {α:Type} {enc:α -> Value} {w:World} {v:Value} {x:α} (h:Q3l w v (enc x)):Src w enc v [x]:=by
 obtain ⟨g,h1,h2⟩:=h;exact ⟨_,1,h1,fun j hj=>⟨g,0,rfl,by
  have:j=0:=by simp at hj; exact hj
  subst this; exact h2⟩⟩
def X7k (p:List Rul) (l:List Int) (k:Nat):List Bool:=(List.range k).map fun t=>Tw.look p (l.take (t + 1))
theorem Z0g (p:List Rul) (l:List Int) (k:Nat):X7k p l (k + 1)=X7k p l k ++ [Tw.look p (l.take (k + 1))]:=by unfold X7k; rw [List.range_succ,List.map_append]; rfl
theorem Z6q (p:List Rul) (l:List Int) (k:Nat):(X7k p l k).length=k:=by simp [X7k]
theorem Y1m (w:World) (v:Value) (m:Mem) (p:List Rul) (B b:Nat) (hv:X2i w v m) (hn:(p.map Rul.classes).Nodup) (hd:∀ k,k < p.length -> Digits (Q0m p k)) (hm:Digits m.classes) (hl:m.classes.length <= 8)
    (hB:w.cell? ⟨B,0,none⟩=some (.map (some b))) (hM:Q5b w b (Q5p p p.length)) :
    Calls prog 168 #[v,.pointer (some ⟨B,0,none⟩)] w fun e w'=>∃ x,e=.returned x /\ Q0q w' w.heap.size 4 .bool x (Q0h p m.classes) /\ Ext w w':=by
 obtain ⟨i0,hi,dq,fq,Zj⟩:=info_parts Y4m;obtain ⟨x,y,z,rfl,hx,hy,hz⟩:=hv;have S8:=hid hx;obtain ⟨X,Sq,rfl,-,U4,L8⟩:=hx.opened;obtain ⟨Y,Jq,rfl,-,-,-⟩:=hy.opened;obtain ⟨Z,Cq,rfl,-,-,-⟩:=hz.opened;have Mx:=hid L8;obtain ⟨lc,vj⟩:∃ x,m.classes=x:=⟨_,rfl⟩;rw [vj] at S8 U4 Mx hm hl ⊢;obtain ⟨lo,Sx⟩:∃ x,m.outside.length=x:=⟨_,rfl⟩;obtain ⟨li,mj⟩:∃ x,m.inflow.length=x:=⟨_,rfl⟩;rw [Sx,mj];have P6:Hid (∀ (W:World) (k:Nat),Ext w W -> (Instr.lookup 245 (.map (some b)) (.string (Q6j (lc.take k))) false).run prog W=.ok (.bool (Tw.look p (lc.take k))) W):=hid (fun W k hW=>by
  have h:=Y2g (P:=prog) (hM.ext hW) Z7q J5c (J8p _) (Q6j (lc.take k)) false;rw [if_neg (by simp),Y8q hn hd (Q5w hm k)] at h
  exact h)
 have O6:=hid hm;have iw:=hid hB;clear hx hy hz L8 hM hn hd hm vj Sx mj hB;go_enter func168,ntmps168;go_wp2_with fail;change Code.wp _ _ _ _ (w.alloc (.cells #[.string m.name,.int .i64 m.weight,.slice X lc.length Sq,.slice Y lo Jq,.slice Z li Cq] 69));obtain ⟨W,Mq,k0,Rq,eW⟩:=Q2q w 69 #[.string m.name,.int .i64 m.weight,.slice X lc.length Sq,.slice Y lo Jq,.slice Z li Cq];rw [Mq];clear Mq;have K0:=hid k0;have c0_2:=k0.cell 2;simp only [Go.Tw.gA,Go.Tw.gB,Go.Tw.gC] at c0_2;obtain ⟨gm,fx⟩:∃ x,w.heap.size=x:=⟨_,rfl⟩;rw [fx] at K0 eW c0_2 ⊢;clear k0;go_wp2;clear c0_2
 go_loopw [4,9] (fun o i wr=>∃ k:Nat,k <= lc.length /\ i=.int .i64 k /\ Q0q wr W.heap.size 4 .bool o (X7k p lc k) /\ Ext W wr) (fun _ i _=>lc.length - (intOf i).toNat)
 case atStart=>exact ⟨0,Nat.zero_le _,rfl,Q0q.nil _ _ _ _,Ext.refl _⟩
 case round =>
  obtain ⟨k,hk,rfl,Yq,Gq⟩:=hrel;obtain ⟨Ao,co,rfl,-⟩:=Yq.shape;have N2:=Z6q p lc k
  by_cases Uq:k < lc.length
  . obtain ⟨bc,oc,L1,-⟩:=Mx.out k Uq
    subst L1;have Pj:=hid Gq;have kq:=hid Yq;have zj:(k:Int) < lc.length:=by omega
    have i9:k + 1 <= Sq:=by omega
    have TZ:(k:Int) + 1 <= (Sq:Int):=by omega
    have d9:¬ ((0:Int) <= (k:Int) + 1 -> (Sq:Int) < (k:Int) + 1):=by omega
    have b9:¬ Sq=0:=by omega
    have ZQ:¬ (k:Int) + 1 < 0:=by omega
    have YQ:((k:Int) + 1).toNat=k + 1:=by omega
    have mW:IntKind.i64.wrap ((k:Int) + 1)=(k:Int) + 1:=Q2j _ (by omega) (by omega)
    have Fj:=hid (Z0g p lc k);have ky:Hid (Q0g w (.slice (some ⟨bc,oc,none⟩) (k + 1) Sq) (lc.take (k + 1))):=hid (Q9n S8.out (by omega))
    have Rk:Hid ((lc.take (k + 1)).length <= 4096):=hid (by rw [List.length_take]; omega)
    have XQ:=hid (Q5w O6.out (k + 1));have nG:=hid (fun W hW=>P6.out W (k + 1) hW);obtain ⟨lp,K8⟩:∃ x,lc.take (k + 1)=x:=⟨_,rfl⟩;rw [K8] at Fj ky Rk XQ nG;obtain ⟨q,hq⟩:∃ x,Tw.look p lp=x:=⟨_,rfl⟩;rw [hq] at Fj nG;have WQ:(X7k p lc k).length + 1 <= 4398046511104:=by omega
    obtain ⟨xs,de⟩:∃ x,X7k p lc k=x:=⟨_,rfl⟩;rw [de] at kq N2 WQ Fj ⊢;have Ur:=hid N2;have mG:=hid WQ;have Xq:=(Ext.refl wr).drew;clear Yq K8 hq Gq N2 WQ de
    go_light
    go_wp2;refine Flow.Q3q [.p,.w,.p,.w,.p,.p,.p,.w,.w,.w,.last,.last] [0,1,2,3,4,5,6,7,8,9,10,11] [[],[],[],[2],[],[4],[2,3,4,5],[2,3,4,5,6],[1,2,3,4,5,6,7],[1,2,3,4,5,6,7,8],[0,1,2,3,4,5,6,7,8,9],[0,1,2,3,4,5,6,7,8,9,10]] [10,11]
     [.c 0 (.slice Ao xs.length co),.c 1 (.map (some b)),.c 2 (.pointer (some ⟨gm,2,none⟩)),.c 3 (.slice (some ⟨bc,oc,none⟩) lc.length Sq),.c 4 (.int .i64 (k:Int)),.c 5 (.int .i64 ((k:Int) + 1)),.c 6 (.slice (some ⟨bc,oc,none⟩) (k + 1) Sq),.c 7 (.string (Q6j lp)),.c 8 (.bool q),⟨fun v wz=>(fun v w'=>Q3l w' (v 9) (.bool q)) v wz,fun _ _ _ hx h=>Q3l.ext h hx⟩,.none,.none]
     [fun v w1 w'=>Q0q w' W.heap.size 4 .bool (v 10) (xs ++ [q]) /\ w1.grownBy w' (Value.slice Ao xs.length co).ownBlock,fun v w1 w'=>v 11=v 10 /\ Q0q w' W.heap.size 4 .bool (v 10) (xs ++ [q]) /\ w1.grownBy w' (Value.slice Ao xs.length co).ownBlock] (by kernel_rfl) rfl (by kernel_rfl) ⟨?g0,?g1,?g2,?g3,?g4,?g5,?g6,?g7,?g8,?g9,?g10,?g11,trivial⟩ ?post
    case g0 | g2 | g4=>
     intro v w1 hx;intro bb hbb;subst hbb;refine ⟨_,fun w=>?_,rfl⟩;go_simp
    case g1=>
     intro v w1 hx;intro bb hbb;subst hbb;have n0:w1.cell? ⟨B,0,none⟩=some (.map (some b)):=(Rq.out.trans (Pj.out.trans (Xq.trans hx))).cell iw.out;intro K hK;go_simp;exact hK _ _ (Ext.refl _) rfl
    case g3=>
     intro v w1 hx;(repeat intro (zq:v _=_));intro bb hbb;subst hbb;have n0:w1.cell? ⟨gm,2,none⟩=some (.slice (some ⟨bc,oc,none⟩) lc.length Sq):=(K0.out.ext (Pj.out.trans (Xq.trans hx))).cell 2;intro K hK;go_simp;exact hK _ _ (Ext.refl _) rfl
    case g5 | g6=>
     intro v w1 hx;(repeat intro (zq:v _=_));intro bb hbb;subst hbb;refine ⟨_,fun w=>?_,rfl⟩;go_simp
    case g7=>
     intro v w1 hx;(repeat intro (zq:v _=_));intro bb hbb;subst hbb;intro K hK;go_simp;refine Q0e (X9b w1 _ lp (ky.out.ext (Rq.out.trans (Pj.out.trans (Xq.trans hx)))) Rk.out XQ.out) ?_;rintro e w2 ⟨rfl,Nq⟩;exact ⟨_,rfl,hK _ _ Nq rfl⟩
    case g8=>
     intro v w1 hx;(repeat intro (zq:v _=_));intro bb hbb;subst hbb;have dg:=nG.out w1 (Rq.out.trans (Pj.out.trans (Xq.trans hx)));intro K hK;go_simp;exact hK _ _ (Ext.refl _) rfl
    case g9=>
     intro v w1 hx;(repeat intro (zq:v _=_));intro bb hbb;subst hbb;intro K hK;go_simp;exact hK _ _ (Ext.box _ _) (Q3l.made _ _ _)
    case g10=>
     intro v w1 hx (q0:v 0=_) (q1:v 1=_) (q2:v 2=_) (q3:v 3=_) (q4:v 4=_) (q5:v 5=_) (q6:v 6=_) (q7:v 7=_) (q8:v 8=_) (q9:(fun v w'=>Q3l w' (v 9) (.bool q)) v w1);intro wl hT;obtain rfl:wl=w1:=hT;intro bb hbb;intro K hK;have o1:bb.eval (.tmp 12)=.slice Ao xs.length co:=fzg03
     have o2:bb.eval (.tmp 21)=v 9:=fzg03
     refine Q1r _ _ 82 rfl W.heap.size 4 i0 (.bool false) 1 underlying82 hi dq fq Zj rfl .bool (.slice Ao xs.length co) (v 9) xs [q] o1 (kq.out.below (Xq.trans hx)) o2 (J7j q9) (fun y hy=>rfl) (by have:=mG.out; rw [List.length_singleton]; exact this) (by decide) (by have:=Pj.out.size; have:=hx.size; have:wr.drew.heap.size=wr.heap.size:=rfl; omega) (fun v' w' Yq hg=>hK _ _ ⟨Yq,hg⟩)
    case g11=>
     intro v w1 hx (q0:v 0=_) (q1:v 1=_) (q2:v 2=_) (q3:v 3=_) (q4:v 4=_) (q5:v 5=_) (q6:v 6=_) (q7:v 7=_) (q8:v 8=_) _;intro wl hT;replace hT:(fun v w1 w'=>Q0q w' W.heap.size 4 .bool (v 10) (xs ++ [q]) /\ w1.grownBy w' (Value.slice Ao xs.length co).ownBlock) v w1 wl:=hT;intro bb hbb;subst hbb;intro K hK;go_simp;exact hK _ _ ⟨rfl,hT⟩
    case post =>
     intro v w1 hx;(iterate 9 intro (zq:v _=_));intro (q9:(fun v w'=>Q3l w' (v 9) (.bool q)) v w1);intro w2 hE;replace hE:(fun v w1 w'=>v 11=v 10 /\ Q0q w' W.heap.size 4 .bool (v 10) (xs ++ [q]) /\ w1.grownBy w' (Value.slice Ao xs.length co).ownBlock) v w1 w2:=hE;simp only [Flow.acts,Act.put];go_simp;obtain ⟨_,Oq,Pq⟩:=hE;have Zq:=Pj.out.trans (Xq.trans hx);have sj:Ext W w2:=Below.grown Zq Pq Zq.size (fun b hb=>by
      have h1:=kq.out;obtain ⟨_,h2⟩:=h1
      rcases h2 with ⟨h2,_⟩ | ⟨g,c,cur,h2,Ux,_⟩
      . rw [h2] at hb; cases hb
      . rw [h2] at hb; cases hb; exact Ux)
     have uj:=hid sj;have T4:=hid Oq;clear hx Xq sj Oq Pq Zq q9;(repeat clear zq);go_wp2;go_roundw
     case rel=>exact ⟨k + 1,by omega,by go_num,by rw [Fj.out]; exact T4.out,uj.out⟩
     case measure=>simp [intOf]; omega
  . have lj:k=lc.length:=by omega
    subst lj;have kq:=hid Yq;have Pj:=hid Gq;clear Yq Gq;go_wp2;go_ret;exact ⟨_,rfl,kq.out.weaken (by omega),Rq.out.trans Pj.out⟩
def Q3s (s:Q0b) (p:List Rul):List (List Bool):=s.members.map fun m=>Q0h p m.classes
theorem Q6b {s:Q0b} (p:List Rul) {k:Nat} (hk:k < s.members.length):(Q3s s p).getD k []=Q0h p (Q0c s.members k):=by
 unfold Q3s Q0c;simp [hk]
theorem Q3c (s:Q0b) (p:List Rul):(Q3s s p).length=s.members.length:=by simp [Q3s]
theorem Y6v {s:Q0b} (p:List Rul) {k:Nat} (hk:k < s.members.length):(Q3s s p).take (k + 1)=(Q3s s p).take k ++ [Q0h p (Q0c s.members k)]:=by
 rw [List.take_succ_eq_append_getElem (by rw [Q3c]; exact hk)]
 unfold Q3s Q0c;simp [hk]
theorem Tryz.Z7w:(prog.info? 82).map (fun i=>(i.zero,i.size,i.bytes))=some (some (.slice none 0 0),1,24):=by kernel_rfl
theorem X1q (w:World) (v:Value) (s:Q0b) (p:List Rul) (B b:Nat) (hv:X0b w v s.members) (hS:Q0r s) (hn:(p.map Rul.classes).Nodup) (hd:∀ k,k < p.length -> Digits (Q0m p k))
    (hB:w.cell? ⟨B,0,none⟩=some (.map (some b))) (hM:Q5b w b (Q5p p p.length)) :
    Calls prog 167 #[v,.func (.func 168) #[] #[.pointer (some ⟨B,0,none⟩)]] w fun e w'=>∃ x vs,e=.returned x /\ Q0q w' w.heap.size 82 idV x vs /\ Q9m w' 4 .bool vs (Q3s s p) /\ Ext w w':=by
 obtain ⟨i0,hi,dq,fq,Zj⟩:=info_parts Z7w;have h8:=hS.some;have h6:=hS.tides;have HS:=hid hS;have HV:=hid hv;obtain ⟨V,Zm,rfl,-,-,-⟩:=hv.opened;have pz:Hid (∀ (W:World) (u:Value) (k:Nat),Ext w W -> k < s.members.length -> X2i W u (Q1g s k) -> Calls prog 168 #[u,.pointer (some ⟨B,0,none⟩)] W fun e w'=>∃ x,e=.returned x /\ Q0q w' W.heap.size 4 .bool x (Q0h p (Q0c s.members k)) /\ Ext W w') :=
  hid (fun W u k hW hk hu=>Y1m W u (Q1g s k) p B b hu hn hd (hS.digits k hk) (by have:=(hS.shaped k hk).1; show (Q0c s.members k).length <= 8; omega) (hW.cell hB) (hM.ext hW))
 clear hv hn hd hB hM hS;go_enter func167,ntmps167;go_wp2
 go_loopw [5,10] (fun o i wr=>∃ (k:Nat) (vs:List Value),k <= s.members.length /\ i=.int .i64 k /\ Q0q wr w.heap.size 82 idV o vs /\ Q9m wr 4 .bool vs ((Q3s s p).take k) /\ Ext w wr) (fun _ i _=>s.members.length - (intOf i).toNat)
 case atStart=>exact ⟨0,[],Nat.zero_le _,rfl,Q0q.nil _ _ _ _,Q9m.nil _ _ _,Ext.refl _⟩
 case round =>
  obtain ⟨k,vs,hk,rfl,Yq,jy,Gq⟩:=hrel;have Dv:vs.length=k:=by have:=jy.1; rw [List.length_take,Q3c] at this; omega
  have Pj:=hid Gq
  by_cases Uq:k < s.members.length
  . have H3:=HV.out.ext Gq
    obtain ⟨_,_,Ym,_,_,hc⟩:=H3.opened;cases Ym;obtain ⟨bm,off,x,y,z,rfl,Tk,e0,e1,e2,e3,e4,hx,hy,hz,nj⟩:=hc k Uq;have rk:=hid hx;have Wz:=hid hy;have Lg:=hid hz;obtain ⟨X,Sq,rfl,-,-,-⟩:=hx.opened;obtain ⟨Y,Jq,rfl,-,-,-⟩:=hy.opened;obtain ⟨Z,Cq,rfl,-,-,-⟩:=hz.opened;have Fj:=hid (Y6v p Uq);have lk:=hid (fun W u hW hu=>pz.out W u k hW Uq hu);have Kg:Hid (∀ W,Ext wr W -> X2i W (.agg #[.string (Q1s s.members k),.int .i64 (Q0n s.members k),.slice X (Q0c s.members k).length Sq,.slice Y (Q1c s.members k).length Jq,.slice Z (Q1f s.members k).length Cq]) (Q1g s k)) :=
     hid (fun W hW=>⟨_,_,_,rfl,rk.out.ext hW,Wz.out.ext hW,Lg.out.ext hW⟩)
    have F2:Hid ((Q0h p (Q0c s.members k)).length <= 4096):=hid (by rw [Q1l,(HS.out.shaped k Uq).1]; omega)
    obtain ⟨nm,Aj⟩:∃ x,Q1s s.members k=x:=⟨_,rfl⟩;obtain ⟨wt,lq⟩:∃ x,Q0n s.members k=x:=⟨_,rfl⟩;obtain ⟨lc,vj⟩:∃ x,Q0c s.members k=x:=⟨_,rfl⟩;obtain ⟨lo,Sx⟩:∃ x,Q1c s.members k=x:=⟨_,rfl⟩;obtain ⟨li,mj⟩:∃ x,Q1f s.members k=x:=⟨_,rfl⟩;rw [Aj] at e0 Kg;rw [lq] at e1 Kg;rw [vj] at e2 Kg Fj lk F2;rw [Sx] at e3 Kg;rw [mj] at e4 Kg;obtain ⟨cl,hcl⟩:∃ x,Q0h p lc=x:=⟨_,rfl⟩;rw [hcl] at Fj lk F2;have zj:(k:Int) < s.members.length:=by omega
    have Bq:=Ext.box wr (.cells #[.string nm,.int .i64 wt,.slice X lc.length Sq,.slice Y lo.length Jq,.slice Z li.length Cq] 69);have K3:=Blk.made wr 69 #[.string nm,.int .i64 wt,.slice X lc.length Sq,.slice Y lo.length Jq,.slice Z li.length Cq];have d0:=(K3).cell 0;have d1:=(K3).cell 1;have d2:=(K3).cell 2;have d3:=(K3).cell 3;have d4:=(K3).cell 4;simp only [Go.Tw.gA,Go.Tw.gB,Go.Tw.gC] at d0 d1 d2 d3 d4;have jq:=hid Bq;have HO:=hid Yq;have lG:=hid jy;have Bw:vs.length <= 4096:=by omega
    clear hc H3 hx hy hz nj Aj lq vj Sx mj hcl Tk Bq K3 Yq jy Gq
    go_light
    go_wp2_with (first | (refine (lk.out _ _ (Pj.out.trans jq.out) (Kg.out _ jq.out)).mono ?_; rintro e w5 ⟨u,rfl,hu,yq⟩; obtain ⟨bu,cu,rfl,-⟩:=hu.shape; have HU:=hid hu; have vq:=hid (jq.out.trans yq); have Yq:=HO.out.below vq.out; have Mj:=Pj.out.trans vq.out; clear hu yq) | (at_builtin; refine wpList_append_own _ rfl _ _ 179 rfl (w.heap.size) 82 i0 (.slice none 0 0) 1 24 underlying179 hi dq fq Zj rfl (by decide) _ _ _ rfl (World.ownsRow.alloc Yq _) ⟨w5.heap.size,0,none⟩ 1 1 [.slice bu cl.length cu] rfl rfl ?_ ?_ ?_ ?_ ?_ ?_; exact Q5y _ _ _; (focus (simp [Value.oneCell'])); (focus (unfold maxLen; omega)); (focus omega); (focus (have:=Mj.size; simp at this ⊢; omega)); intro v' w1 Oq Pq _))
    have hx':=Q3r Mj Yq (Nat.le_refl _) Pq;have ij:=Ext.box w5 (.cells #[.slice bu cl.length cu] 82);have S4:=((((lG.out.ext vq.out).snoc HU.out).ext ij)).grown (Yq.below ij) (by decide) Pq
    have kG:=hid S4;clear S4;go_wp2;go_roundw
    case rel=>exact ⟨k + 1,vs ++ [.slice bu cl.length cu],by omega,by go_num,Q0q.snoc (x:=Value.slice bu cl.length cu) Oq,by rw [Fj.out]; exact kG.out,hx'⟩
    case measure=>simp [intOf]; omega
  . have lj:k=s.members.length:=by omega
    have HF:Hid ((Q3s s p).take k=Q3s s p):=hid (List.take_of_length_le (by rw [Q3c]; omega))
    have HO:=hid Yq;have lG:=hid jy;clear Yq jy Gq;go_wp2;go_ret;exact ⟨_,vs,rfl,HO.out,by rw [<- HF.out]; exact lG.out,Pj.out⟩
theorem Y9d {P:Program} {K:Value -> World -> Prop} {o:Oper} {a:Act} {w w':World} {t:TypeId} (m k x:Operand) (ho:o.op=.mapUpdate t m k x) {mv kv xv:Value} (hm:a.eval m=mv) (hk:a.eval k=kv) (hx:a.eval x=xv)
    (hr:(Instr.mapUpdate t mv kv xv).run P w=.ok () w') (h:∀ v,K v w'):gives P K ((execOp a.eval o).run P w):=by
 unfold execOp;simp only [ho,hm,hk,hx,Sem.run_bind,Sem.run_pure,Result.andThen_ok,hr];exact h _
theorem Y0p {s:Q0b} (hS:Q0r s):∀ h ∈ s.hist,Digits h:=fun h hh=>by
 obtain ⟨t,ht,k,hk,rfl⟩:=(Q0b.Q4k _ _).1 hh;exact Q5w (hS.digits k hk) _
theorem X9q {s:Q0b} (hS:Q0r s) {p:List Rul} (hp:Q0x s.hist p=0):(p.map Rul.classes).Nodup:=by
 rw [Q1n.1 hp]; exact Y9i (Q0b.Y6c hS.shaped)
theorem X7l {s:Q0b} (hS:Q0r s) {p:List Rul} (hp:Q0x s.hist p=0):∀ k,k < p.length -> Digits (Q0m p k):=fun k hk=>by
 rw [Q2p hk];exact Y0p hS _ (by rw [<- Q1n.1 hp]; exact List.mem_map_of_mem (List.getElem_mem hk))
theorem Q6i {s:Q0b} (hS:Q0r s):∀ h ∈ s.hist,h.length <= 6:=fun h hh=>by
 obtain ⟨t,ht,k,hk,rfl⟩:=(Q0b.Q4k _ _).1 hh;have:=hS.tides.2;rw [List.length_take]; omega
theorem Y2r {s:Q0b} (hS:Q0r s) {p:List Rul} (hp:Q0x s.hist p=0):∀ k,k < p.length -> (Q0m p k).length <= 6:=fun k hk=>by
 rw [Q2p hk];exact Q6i hS _ (by rw [<- Q1n.1 hp]; exact List.mem_map_of_mem (List.getElem_mem hk))
theorem Q7q (w:World) (v u:Value) (s:Q0b) (p:List Rul) (hv:Q0i w v s) (hu:Q0l w u p) (hS:Q0r s) (hp:Q0x s.hist p=0) :
    Calls prog 109 #[v,u] w fun e w'=>∃ x,e=.returned x /\ Q4l w' x (Q3s s p) /\ Ext w w':=by
 have h8:=hS.some;have jG:=hid (fun i (hi:i < (Q3s s p).length)=>(show ((Q3s s p).getD i []).length <= 17592186043904 by
  rw [Q3c] at hi;rw [Q6b p hi,Q1l,(hS.shaped i hi).1];have:=hS.tides.2; omega))
 have J8:=hid (X9q hS hp);have SZ:=hid (X7l hS hp);have iG:=hid (Y2r hS hp);have HS:=hid hS;obtain ⟨a,b,rfl,h2⟩:=hv;obtain ⟨rv,rfl,hr⟩:=hu;obtain ⟨A,Tq,rfl,-,-,-⟩:=h2.ships.opened;obtain ⟨M,Vq,rfl,-,-,-⟩:=h2.members.opened;have T0:=hid hr;obtain ⟨R,Fq,rfl,-,-,-⟩:=hr.opened;have H2:=hid h2;clear h2 hr hS hp;go_enter func109,ntmps109;go_upto_region 1 with fail;change Code.wp _ _ _ _ ((w.alloc (.cells #[.int .i64 s.limit,.slice A s.ships.length Tq,.slice M s.members.length Vq] 34)).alloc (.cells #[.slice R p.length Fq] 38));obtain ⟨W,Mq,k0,k1,Rq,eW⟩:=Q4p w 34 #[.int .i64 s.limit,.slice A s.ships.length Tq,.slice M s.members.length Vq] 38 #[.slice R p.length Fq];rw [Mq];clear Mq;have iy:=@run_makeMap prog;have T7:=Ext.box W (.map #[] 0);have yz:=Ext.box (W.alloc (.map #[] 0)) (.cells #[.map (some (w.heap.size + 1 + 1))] 245);have m0:=(Q5b.made W).ext yz;rw [eW] at m0;have kb:=Blk.made (W.alloc (.map #[] 0)) 245 #[.map (some (w.heap.size + 1 + 1))];have es:(W.alloc (.map #[] 0)).heap.size=W.heap.size + 1:=by simp
 have es2:((W.alloc (.map #[] 0)).alloc (.cells #[.map (some (w.heap.size + 1 + 1))] 245)).heap.size=W.heap.size + 1 + 1:=by simp
 rw [es,eW] at kb;rw [eW] at es2;have KS:=k0.ext (T7.trans yz);have KP:=k1.ext (T7.trans yz);have n1:=KP.cell 0;simp only [Go.Tw.gA,Go.Tw.gB] at n1;go_wp2;obtain ⟨V,hV⟩:∃ V,(W.alloc (.map #[] 0)).alloc (.cells #[.map (some (w.heap.size + 1 + 1))] 245)=V:=⟨_,rfl⟩;have RZ:Ext w V:=Rq.out.trans (by rw [<- hV]; exact T7.trans yz)
 rw [hV] at m0 kb KS KP es2 ⊢;obtain ⟨b,hb⟩:∃ b,w.heap.size + 1 + 1=b:=⟨_,rfl⟩;rw [hb] at m0 kb es2 ⊢;have Cz:w.heap.size < b:=by omega
 have VQ:w.heap.size + 1 < b:=by omega
 obtain ⟨gs,Rj⟩:∃ x,w.heap.size=x:=⟨_,rfl⟩;have rx:=hid Rj;rw [Rj] at KS KP Cz VQ ⊢;have R4:=hid KS;have yw:=hid RZ;have nJ:=hid m0;have UQ:=hid kb;have gG:=hid es2;clear T7 yz m0 kb es es2 KS KP n1 hV RZ hb eW Rq k0 k1 Rj iy
 go_loopw [12] (fun i wr=>∃ k:Nat,k <= p.length /\ i=.int .i64 k /\ Q5b wr b (Q5p p k) /\ Blk wr (b + 1) 245 #[.map (some b)] /\ Below b V wr) (fun i _=>p.length - (intOf i).toNat)
 case atStart=>exact ⟨0,Nat.zero_le _,rfl,nJ.out,UQ.out,Below.refl _ _⟩
 case round =>
  obtain ⟨k,hk,rfl,fw,Qz,ej⟩:=hrel;have N6:=hid fw;have zv:=hid Qz;have Qy:=hid ej
  by_cases Uq:k < p.length
  . obtain ⟨_,_,fG,_,_,hc⟩:=T0.out.opened
    cases fG;obtain ⟨br,orr,xr,rfl,Oy,Ej,aq,Wx⟩:=hc k Uq;have zg:br < b:=by have:=rx.out; omega
    have QZ:=(ej.cell (p:=⟨br,orr + k * 2,none⟩) zg).trans (yw.out.cell Ej);have Cv:=(ej.cell (p:=⟨br,orr + k * 2 + 1,none⟩) zg).trans (yw.out.cell aq);obtain ⟨Xr,cxr,rfl,-,-,-⟩:=Wx.opened;have Aw:Below w.heap.size w wr:=Below.trans yw.out (ej.mono (by have:=rx.out; omega))
    have G8:=hid (Wx.ext Aw);have PZ:=hid (SZ.out k Uq);have P6:Hid ((Q0m p k).length <= 4096):=hid (by have:=iG.out k Uq; omega)
    have Fj:Hid (Q5p p (k + 1)=Y7n (Q6j (Q0m p k)) (.bool (Q2h p k)) (Q5p p k)):=hid rfl;obtain ⟨lc,vj⟩:∃ x,Q0m p k=x:=⟨_,rfl⟩;obtain ⟨cb,Kj⟩:∃ x,Q2h p k=x:=⟨_,rfl⟩;obtain ⟨L,hL⟩:∃ x,Q5p p k=x:=⟨_,rfl⟩;rw [vj] at QZ G8 PZ P6 Fj;rw [Kj] at Cv Fj;rw [hL] at N6 Fj;have zj:(k:Int) < p.length:=by omega
    have hxb:=Ext.box wr (.cells #[.slice Xr lc.length cxr,.bool cb] 167);have kr:=Blk.made wr 167 #[.slice Xr lc.length cxr,.bool cb];have jq:=hid hxb;have TQ:b + 1 < wr.heap.size:=Qz.lt;clear hc Ej aq Wx Aw vj Kj hL fw Qz ej Oy zg hxb
    go_light
    go_wp2;obtain ⟨W5,Q4⟩:∃ X,wr.alloc (.cells #[.slice Xr lc.length cxr,.bool cb] 167)=X:=⟨_,rfl⟩;obtain ⟨g,hg⟩:∃ x,wr.heap.size=x:=⟨_,rfl⟩;rw [Q4] at jq kr ⊢;rw [hg] at kr TQ ⊢;have KR:=hid kr;have Xq:=(Ext.refl W5).drew;clear Q4 kr QZ Cv hg;refine Flow.Q3q [.w,.p,.w,.w,.p,.w,.last] [0,1,2,3,4,5,6] [[],[],[1],[1,2],[],[4],[0,1,2,3,4,5]] [6]
     [.c 0 (.map (some b)),.c 1 (.pointer (some ⟨g,0,none⟩)),.c 2 (.slice Xr lc.length cxr),.c 3 (.string (Q6j lc)),.c 4 (.pointer (some ⟨g,1,none⟩)),.c 5 (.bool cb),.none]
     [fun v w1 w'=>Q5b w' b (Y7n (Q6j lc) (.bool cb) L) /\ (∀ n,n <= b -> Below n w1 w') /\ w1.grownBy w' (some b)] (by kernel_rfl) rfl (by kernel_rfl) ⟨?g0,?g1,?g2,?g3,?g4,?g5,?g6,trivial⟩ ?post
    case g0=>
     intro v w1 hx;intro bb hbb;subst hbb;have n0:w1.cell? ⟨b + 1,0,none⟩=some (.map (some b)):=(zv.out.ext (jq.out.trans (Xq.trans hx))).cell 0;intro K hK;go_simp;exact hK _ _ (Ext.refl _) rfl
    case g1 | g4=>
     intro v w1 hx;intro bb hbb;subst hbb;refine ⟨_,fun w=>?_,rfl⟩;go_simp
    case g2 | g5=>
     intro v w1 hx;(repeat intro (zq:v _=_));intro bb hbb;subst hbb;have n0:w1.cell? ⟨g,0,none⟩=some (.slice Xr lc.length cxr):=(KR.out.ext (Xq.trans hx)).cell 0;have n1:w1.cell? ⟨g,1,none⟩=some (.bool cb):=(KR.out.ext (Xq.trans hx)).cell 1;intro K hK;go_simp;exact hK _ _ (Ext.refl _) rfl
    case g3=>
     intro v w1 hx;(repeat intro (zq:v _=_));intro bb hbb;subst hbb;intro K hK;go_simp;refine Q0e (X9b w1 _ lc (G8.out.ext (jq.out.trans (Xq.trans hx))) P6.out PZ.out) ?_;rintro e w2 ⟨rfl,Nq⟩;exact ⟨_,rfl,hK _ _ Nq rfl⟩
    case g6=>
     intro v w1 hx;(repeat intro (zq:v _=_));intro wl hT;obtain rfl:wl=w1:=hT;intro bb hbb;intro K hK;have o1:bb.eval (.tmp 16)=.map (some b):=fzg03
     have o2:bb.eval (.tmp 19)=.string (Q6j lc):=fzg03
     have o3:bb.eval (.tmp 21)=.bool cb:=fzg03
     obtain ⟨w2,Zv,V1,mz,Ny⟩:=Y0m (P:=prog) (N6.out.ext (jq.out.trans (Xq.trans hx))) Z7q J5c (Q6j lc) (.bool cb);exact Y9d (.tmp 16) (.tmp 19) (.tmp 21) rfl o1 o2 o3 Zv (fun vv=>hK _ _ ⟨V1,mz,Ny⟩)
    case post =>
     intro v w1 hx;(iterate 6 intro (zq:v _=_));intro w2 hE;replace hE:(fun v w1 w'=>Q5b w' b (Y7n (Q6j lc) (.bool cb) L) /\ (∀ n,n <= b -> Below n w1 w') /\ w1.grownBy w' (some b)) v w1 w2:=hE;simp only [Flow.acts,Act.put];go_simp;obtain ⟨V1,mz,Ny⟩:=hE;have Zq:=jq.out.trans (Xq.trans hx);have ew:=zv.out.ext Zq;have P4:Blk w2 (b + 1) 245 #[.map (some b)]:=by
      unfold Blk at ew ⊢;rw [Ny.block (b + 1) (Array.getElem?_eq_some_iff.1 ew).1 (by intro e; injection e with e; omega)]
      exact ew
     have O4:Below b V w2:=Below.trans Qy.out (Below.trans (Zq.mono (by have:=zv.out.lt; omega)) (mz b (Nat.le_refl _)))
     have Jz:=hid V1;have E2:=hid P4;have fy:=hid O4;clear hx Xq V1 mz Ny Zq ew P4 O4;(repeat clear zq);go_wp2;go_roundw
     case rel=>exact ⟨k + 1,by omega,by go_num,by rw [Fj.out]; exact Jz.out,E2.out,fy.out⟩
     case measure=>simp [intOf]; omega
  . have lj:k=p.length:=by omega
    subst lj;have ks:=R4.out.below ej Cz;have c2:=ks.cell 2;simp only [Go.Tw.gA,Go.Tw.gB,Go.Tw.gC] at c2;have Aw:Ext w wr:=Below.trans yw.out (ej.mono (by have:=rx.out; omega))
    have mJ:=hid (X1q wr _ s p (b + 1) b (H2.out.members.ext Aw) HS.out J8.out SZ.out (Qz.cell 0) fw);have OZ:=hid Aw;clear ks fw Qz ej Aw;go_wp2_with (go_at_call 167; refine mJ.out.mono ?_; rintro e w5 ⟨x,vs,rfl,aq,Nq,yq⟩; have kx:=hid aq; have N4:=hid Nq; have vq:=hid yq; clear aq Nq yq);go_ret;exact ⟨x,rfl,Q0q.J8z kx.out (N4.out.J8w jG.out) (by rw [Q3c]; omega),OZ.out.trans vq.out⟩
theorem Tryz.Z6e (w:World):(isAgg 69).run prog w=.ok true w:=by kernel_rfl
theorem Tryz.Y3r (w:World):(sizeOf 69).run prog w=.ok 5 w:=by kernel_rfl
theorem X1t {s:Q0b} (hS:Q0r s) {k n:Nat} (hk:k < s.members.length) (hn:n <= s.ships.length):OkM (Q1g s k) n:=by
 obtain ⟨_,h2,h3⟩:=hS.shaped k hk;refine ⟨?_,?_,fun j hj=>?_⟩
 . show n <= (Q1c s.members k).length; omega
 . show n <= (Q1f s.members k).length; omega
 . have Uw:j < (Q1f s.members k).length:=hj
   have:=hS.inflow k hk (ix (Q1f s.members k) j) (by rw [Q5g Uw]; exact List.getElem_mem Uw)
   exact this
structure J2b (w:World) (M:Option Addr) (s:Q0b) (k:Nat) (b off Sq Jq Cq:Nat) (X Y Z:Option Addr):Prop where
 addr:M=some ⟨b,off,none⟩
 lt:b < w.heap.size
 e0:w.cell? ⟨b,off + k * 5,none⟩=some (.string (Q1s s.members k))
 e1:w.cell? ⟨b,off + k * 5 + 1,none⟩=some (.int .i64 (Q0n s.members k))
 e2:w.cell? ⟨b,off + k * 5 + 2,none⟩=some (.slice X (Q0c s.members k).length Sq)
 e3:w.cell? ⟨b,off + k * 5 + 3,none⟩=some (.slice Y (Q1c s.members k).length Jq)
 e4:w.cell? ⟨b,off + k * 5 + 4,none⟩=some (.slice Z (Q1f s.members k).length Cq)
 x:Q0g w (.slice X (Q0c s.members k).length Sq) (Q0c s.members k)
 y:Q0g w (.slice Y (Q1c s.members k).length Jq) (Q1c s.members k)
 z:Q0g w (.slice Z (Q1f s.members k).length Cq) (Q1f s.members k)
theorem Q3e {w:World} {M:Option Addr} {Qq:Nat} {s:Q0b} (h:X0b w (.slice M s.members.length Qq) s.members) {k:Nat} (hk:k < s.members.length) :
    ∃ b off Sq Jq Cq X Y Z,J2b w M s k b off Sq Jq Cq X Y Z:=by
 obtain ⟨_,_,he,_,_,hc⟩:=h.opened;cases he;obtain ⟨b,off,x,y,z,hA,hb,e0,e1,e2,e3,e4,hx,hy,hz,_⟩:=hc k hk;obtain ⟨X,Sq,rfl,-,-,-⟩:=hx.opened;obtain ⟨Y,Jq,rfl,-,-,-⟩:=hy.opened;obtain ⟨Z,Cq,rfl,-,-,-⟩:=hz.opened;exact ⟨b,off,Sq,Jq,Cq,X,Y,Z,hA,hb,e0,e1,e2,e3,e4,hx,hy,hz⟩
theorem J2b.mem {w W:World} {M:Option Addr} {s:Q0b} {k b off Sq Jq Cq:Nat} {X Y Z:Option Addr} (h:J2b w M s k b off Sq Jq Cq X Y Z) (hx:Ext w W) :
    X2i W (.agg #[.string (Q1s s.members k),.int .i64 (Q0n s.members k),.slice X (Q0c s.members k).length Sq,.slice Y (Q1c s.members k).length Jq,.slice Z (Q1f s.members k).length Cq]) (Q1g s k) :=
 ⟨_,_,_,rfl,h.x.ext hx,h.y.ext hx,h.z.ext hx⟩
theorem J4f (w:World) (v u:Value) (s:Q0b) (p:List Rul) (hv:Q0i w v s) (hu:Q4l w u (Q3s s p)) (hS:Q0r s) :
    Calls prog 108 #[v,u] w fun e w'=>∃ x,e=.returned x /\ Q0g w' x (Q1w s p) /\ Ext w w':=by
 obtain ⟨i0,hi,dq,fq,Zj⟩:=info_parts info3;have h8:=hS.some;have h6:=hS.tides;have HS:=hid hS;obtain ⟨a,b,rfl,h2⟩:=hv;obtain ⟨A,Tq,rfl,-,-,-⟩:=h2.ships.opened;obtain ⟨M,Vq,rfl,-,-,-⟩:=h2.members.opened;have H2:=hid h2;obtain ⟨U,py,rfl,-,-,Ag⟩:=hu.opened;rw [Q3c] at Ag ⊢;have m9:=hid Ag;clear h2 hu Ag hS;go_enter func108,ntmps108;go_wp2_with fail;change Code.wp _ _ _ _ (w.alloc (.cells #[.int .i64 s.limit,.slice A s.ships.length Tq,.slice M s.members.length Vq] 34));obtain ⟨W,Mq,k0,Rq,eW⟩:=Q2q w 34 #[.int .i64 s.limit,.slice A s.ships.length Tq,.slice M s.members.length Vq];rw [Mq];clear Mq;have K0:=hid k0;have c0_2:=k0.cell 2;simp only [Go.Tw.gA,Go.Tw.gB,Go.Tw.gC] at c0_2;obtain ⟨gs,Rj⟩:∃ x,w.heap.size=x:=⟨_,rfl⟩;rw [Rj] at K0 eW c0_2 ⊢;clear k0;go_wp2;clear c0_2
 go_loopw [5,11] (fun o i wr=>∃ (k:Nat),k <= s.members.length /\ i=.int .i64 k /\ Q0q wr W.heap.size 3 (.int .i64) o (Q7x s p k) /\ Ext W wr) (fun _ i _=>s.members.length - (intOf i).toNat)
 case atStart=>exact ⟨0,Nat.zero_le _,rfl,Q0q.nil _ _ _ _,Ext.refl _⟩
 case round =>
  obtain ⟨k,hk,rfl,Yq,Gq⟩:=hrel;have Pj:=hid Gq;have kq:=hid Yq
  by_cases Uq:k < s.members.length
  . obtain ⟨bm,off,Sq,Jq,Cq,X,Y,Z,rq⟩:=Q3e (H2.out.members.ext (Rq.out.trans Gq)) Uq
    have eG:=hid rq;have hA:=rq.addr;subst hA;have e0:=rq.e0;have e1:=rq.e1;have e2:=rq.e2;have e3:=rq.e3;have e4:=rq.e4;have Jz:=hid (fun W' hW=>rq.mem (W:=W') hW);obtain ⟨bu,ou,xk,hU,-,qv,xj⟩:=m9.out k Uq;subst hU;rw [Q6b p Uq] at xj;have Dq:(Q0h p (Q0c s.members k)).length=s.ships.length:=by rw [Q1l,(HS.out.shaped k Uq).1]
    have S7:Hid ((Q0h p (Q0c s.members k)).length <= 9):=hid (by omega)
    have W4:=hid (X1t HS.out Uq (n:=(Q0h p (Q0c s.members k)).length) (by omega))
    have Sv:=Z1c s p k;have dG:J2y s p k=(Q1g s k).keeps s.limit (Q0h p (Q0c s.members k)):=rfl;obtain ⟨cl,hcl⟩:∃ x,Q0h p (Q0c s.members k)=x:=⟨_,rfl⟩;rw [hcl] at xj S7 W4 dG;obtain ⟨q,hq⟩:∃ x,(Q1g s k).keeps s.limit cl=x:=⟨_,rfl⟩;rw [dG,hq] at Sv;have HQ:=hid hq;have Fj:=hid Sv;obtain ⟨nm,Aj⟩:∃ x,Q1s s.members k=x:=⟨_,rfl⟩;obtain ⟨wt,lq⟩:∃ x,Q0n s.members k=x:=⟨_,rfl⟩;obtain ⟨lc,vj⟩:∃ x,(Q0c s.members k).length=x:=⟨_,rfl⟩;obtain ⟨lo,Sx⟩:∃ x,(Q1c s.members k).length=x:=⟨_,rfl⟩;obtain ⟨li,mj⟩:∃ x,(Q1f s.members k).length=x:=⟨_,rfl⟩;rw [Aj] at e0 Jz;rw [lq] at e1 Jz;rw [vj] at e2 Jz;rw [Sx] at e3 Jz;rw [mj] at e4 Jz;obtain ⟨Uk,Q7,rfl,-,-,-⟩:=xj.opened;have kJ:=hid qv;have ly:=hid xj;have zj:(k:Int) < s.members.length:=by omega
    have Bq:=Ext.box wr (.cells #[.string nm,.int .i64 wt,.slice X lc Sq,.slice Y lo Jq,.slice Z li Cq] 69);have K3:=Blk.made wr 69 #[.string nm,.int .i64 wt,.slice X lc Sq,.slice Y lo Jq,.slice Z li Cq];have jq:=hid Bq;clear rq Dq dG hcl hq Sv Aj lq vj Sx mj Bq Yq Gq qv xj eG
    go_light
    go_wp2;obtain ⟨W5,Q4⟩:∃ X',wr.alloc (.cells #[.string nm,.int .i64 wt,.slice X lc Sq,.slice Y lo Jq,.slice Z li Cq] 69)=X':=⟨_,rfl⟩;obtain ⟨g,hg⟩:∃ x,wr.heap.size=x:=⟨_,rfl⟩;rw [Q4] at jq K3 ⊢;rw [hg] at K3 ⊢;have KR:=hid K3;have Xq:=(Ext.refl W5).drew;clear Q4 K3 e0 e1 e2 e3 e4 hg;refine Flow.Q1h [.w,.p,.w,.p,.p,.p,.w,.w] [0,1,2,3,4,5,6,7] [[],[],[1],[],[],[3,4],[5],[0,2,6]]
     [.c 0 (.agg #[.string nm,.int .i64 wt,.slice X lc Sq,.slice Y lo Jq,.slice Z li Cq]),.c 1 (.pointer (some ⟨gs,0,none⟩)),.c 2 (.int .i64 s.limit),.c 3 (.slice (some ⟨bu,ou,none⟩) s.members.length py),.c 4 (.int .i64 (k:Int)),.c 5 (.pointer (some ⟨bu,ou + k,none⟩)),.c 6 (.slice Uk cl.length Q7),.c 7 (.bool q)]
     (by kernel_rfl) rfl (by kernel_rfl) ⟨?g0,?g1,?g2,?g3,?g4,?g5,?g6,?g7,trivial⟩ ?post
    case g0=>
     intro v w1 hx;intro bb hbb;intro K hK;have o1:bb.eval (.tmp 7)=.pointer (some ⟨g,0,none⟩):=by rw [hbb]; dsimp only; (try simp (discharger:=decide) only [eval_put_ne]); rfl
     exact Q0k (.tmp 7) _ rfl Z6e Y3r o1 (KR.out.ext (Xq.trans hx)) rfl (hK _ _ (Ext.refl _) rfl)
    case g1 | g3 | g4=>
     intro v w1 hx;intro bb hbb;subst hbb;refine ⟨_,fun w=>?_,rfl⟩;go_simp
    case g2 | g6=>
     intro v w1 hx;(repeat intro (zq:v _=_));intro bb hbb;subst hbb;have n0:w1.cell? ⟨gs,0,none⟩=some (.int .i64 s.limit):=(K0.out.ext (Pj.out.trans (jq.out.trans (Xq.trans hx)))).cell 0;have n1:w1.cell? ⟨bu,ou + k,none⟩=some (.slice Uk cl.length Q7):=(Rq.out.trans (Pj.out.trans (jq.out.trans (Xq.trans hx)))).cell kJ.out;intro K hK;go_simp;exact hK _ _ (Ext.refl _) rfl
    case g5=>
     intro v w1 hx;(repeat intro (zq:v _=_));intro bb hbb;subst hbb;refine ⟨_,fun w=>?_,rfl⟩;go_simp
    case g7=>
     intro v w1 hx;(repeat intro (zq:v _=_));intro bb hbb;subst hbb;intro K hK;go_simp;refine Q0e (X0v w1 _ _ (Q1g s k) s.limit cl (Jz.out w1 (jq.out.trans (Xq.trans hx))) (ly.out.ext (Rq.out.trans (Pj.out.trans (jq.out.trans (Xq.trans hx))))) S7.out W4.out) ?_;rintro e w2 ⟨rfl,Nq⟩;rw [HQ.out];exact ⟨_,rfl,hK _ _ Nq rfl⟩
    case post =>
     intro v w1 hx;(iterate 8 intro (zq:v _=_));simp only [Flow.All,Flow.acts,Act.put];go_simp;have Zq:=Pj.out.trans (jq.out.trans (Xq.trans hx));have Yq:=kq.out.below (jq.out.trans (Xq.trans hx));have kx:=hid Zq;clear hx Xq;(repeat clear zq);obtain ⟨w3,rfl⟩:∃ X,X=w1:=⟨_,rfl⟩;cases q with
     | true =>
       have Sj:Hid (Q7x s p (k + 1)=Q7x s p k ++ [(k:Int)]):=hid (by rw [Fj.out,if_pos (by trivial)])
       have Bw:(Q7x s p k).length <= 4096:=by have:=Y2t s p k; omega
       have Rv:=hid Yq;have yj:=kx.out;clear Zq;go_wp2_with (at_builtin; refine wpList_append_own _ rfl _ _ 22 rfl (W.heap.size) 3 i0 (.int .i64 0) 1 8 underlying22 hi dq fq Zj rfl (by decide) _ _ _ rfl (World.ownsRow.alloc Yq _) ⟨w3.heap.size,0,none⟩ 1 1 [.int .i64 (k:Int)] rfl rfl ?_ ?_ ?_ ?_ ?_ ?_; exact Q5y _ _ _; (focus (simp [Value.oneCell'])); (focus (unfold maxLen; omega)); (focus omega); (focus (have:=yj.size; simp at this ⊢; omega)); intro v' w1 Oq Pq _)
       have hx':=Q3r yj Rv.out (Nat.le_refl _) Pq;go_roundw
       case rel=>exact ⟨k + 1,by omega,by go_num,by rw [Sj.out]; exact Q0q.snoc Oq,hx'⟩
       case measure=>simp [intOf]; omega
     | false =>
       have Sj:Hid (Q7x s p (k + 1)=Q7x s p k):=hid (by rw [Fj.out]; simp)
       have Rv:=hid Yq;clear Yq Zq;go_wp2;go_roundw
       case rel=>exact ⟨k + 1,by omega,by go_num,by rw [Sj.out]; exact Rv.out,kx.out⟩
       case measure=>simp [intOf]; omega
  . have lj:k=s.members.length:=by omega
    subst lj;go_wp2;go_ret;exact ⟨_,rfl,by rw [<- Z5n]; exact kq.out.ints (by have:=Y2t s p s.members.length; omega),Rq.out.trans Pj.out⟩
end Go.Proofs
