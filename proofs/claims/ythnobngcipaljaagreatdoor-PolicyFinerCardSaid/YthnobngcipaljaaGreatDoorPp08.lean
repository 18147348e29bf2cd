/- Contracts: a member's step, its X3n, keeps. The closings of a policy as the reference makes them (each rule that fits is put behind) are those of the specification: plain lists, no program is in sight. Turning a rule of a policy changes what is done after its history alone: plain lists, no program is in sight. Maps with string keys that a call makes, as lists of pairs: look-ups and stores. Plain law: the rules of a policy as a map from keys to closings. A list of lists that a call makes and appends to. Lists of closings. Contracts: key. Contract of the reference: closings. Contract of the reference: Play. -/
import Derived.Test.YthnobngcipaljaaGreatDoorPp07
import Derived.Test.YthnobngcipaljaaGreatDoorPp04
import Derived.Test.YthnobngcipaljaaGreatDoorPp03
import Derived.Maps.OwnSet
import Derived.MapKept
import Derived.Test.YthnobngcipaljaaGreatDoorPp05
import Derived.Laws.BytesArg
set_option maxRecDepth 1000000
set_option maxHeartbeats 64000000
set_option linter.unusedVariables false
set_option linter.unusedSimpArgs false
set_option linter.constructorNameAsVariable false
open Go.Lib (hid)
namespace Go.Proofs
open Go.RowKit Go.Tw Go.Flow
theorem Y5d (w:World) (v:Value) (l:List Int) (g:Nat) (c:Value) (p:Int -> Bool) (hv:Q0d w v l) (eg:∀ args w,(callFunc g args).run Tryz.prog w=.ok (.enter g args) w)
    (hp:∀ W x,Ext w W -> x ∈ l -> Calls Tryz.prog g #[.int .i64 x,c] W fun e W'=>e=.returned (.bool (p x)) /\ Ext W W') :
    Calls Tryz.prog 176 #[v,.func (.func g) #[] #[c]] w fun e w'=>∃ r:Int,e=.returned (.int .i64 r) /\ decide (0 <= r)=l.any p /\ Ext w w':=by
 obtain ⟨A,cap,rfl,hl,hcap,hc⟩:=hv.opened;have HP:=hid hp;have HC:=hid hc;clear hv hp hc;go_enter Tryz.func176,Tryz.ntmps176;go_wp2
 go_loopw [8] (fun i wr=>∃ k:Nat,k <= l.length /\ i=.int .i64 k /\ (l.drop k).any p=l.any p /\ Ext w wr) (fun i _=>l.length - (intOf i).toNat)
 case atStart=>exact ⟨0,Nat.zero_le _,rfl,rfl,Ext.refl _⟩
 case round =>
  obtain ⟨k,hk,rfl,hr,hx⟩:=hrel;have HR:=hid hr; clear hr
  by_cases hlt:k < l.length
  . obtain ⟨b,off,rfl,hcell⟩:=HC.out k hlt
    replace hcell:=hx.cell hcell;have hmem:ix l k ∈ l:=by rw [Q4s hlt]; exact List.getElem_mem hlt
    have hd:=Q3b hlt;have HST:Hid (l.any p=(p (ix l k) || (l.drop (k + 1)).any p)):=hid (by rw [<- HR.out,hd,List.any_cons])
    obtain ⟨y,hy⟩:∃ y,ix l k=y:=⟨_,rfl⟩;have HPY:=hid (HP.out wr (ix l k) hx hmem);rw [hy] at HPY hcell HST;obtain ⟨q,hq⟩:∃ q,p y=q:=⟨_,rfl⟩;rw [hq] at HPY HST;clear hq hy hd hmem;cases q with
    | true =>
      go_wp2_with (refine HPY.out.mono ?_; rintro e w9 ⟨rfl,hx9⟩);go_ret;exact ⟨k,rfl,by rw [HST.out]; simp,hx.trans hx9⟩
    | false =>
      go_wp2_with (refine HPY.out.mono ?_; rintro e w9 ⟨rfl,hx9⟩);go_roundw
      case rel=>exact ⟨k + 1,by omega,by go_num,by rw [HST.out,Bool.false_or],hx.trans hx9⟩
      case measure=>simp [intOf]; omega
  . go_wp2
    go_ret;exact ⟨-1,rfl,by rw [<- HR.out,List.drop_eq_nil_of_le (by omega)]; rfl,hx⟩
theorem X6s (w:World) (v:Value) (l:List Int) (g:Nat) (c:Value) (p:Int -> Bool) (hv:Q0d w v l) (eg:∀ args w,(callFunc g args).run Tryz.prog w=.ok (.enter g args) w)
    (hp:∀ W x,Ext w W -> x ∈ l -> Calls Tryz.prog g #[.int .i64 x,c] W fun e W'=>e=.returned (.bool (p x)) /\ Ext W W') :
    Calls Tryz.prog 138 #[v,.func (.func g) #[] #[c]] w fun e w'=>e=.returned (.bool (l.any p)) /\ Ext w w':=by
 have HI:=hid (Y5d w v l g c p hv eg hp);obtain ⟨A,cap,rfl,hl,hcap,hc⟩:=hv.opened;obtain ⟨q,hq⟩:∃ q,l.any p=q:=⟨_,rfl⟩;rw [hq] at HI ⊢;clear hv hc hp hq;go_enter Tryz.func138,Tryz.ntmps138;go_wp2_with (go_at_call 176; refine HI.out.mono ?_; rintro e w' ⟨r,rfl,hr,hx⟩; have HR:=hid hr; clear hr);go_ret;exact ⟨Q0u HR.out,hx⟩
def X0q (w:World) (v:Value) (m:Mem):Prop:=∃ x y z,v=.agg #[.string m.name,.int .i64 m.weight,x,y,z] /\ Q0d w x m.classes /\ Q0d w y m.outside /\ Q0d w z m.inflow
theorem X0q.ext {w w':World} {v:Value} {m:Mem} (h:X0q w v m) (hx:Ext w w'):X0q w' v m:=let ⟨x,y,z,e,h1,h2,h3⟩:=h; ⟨x,y,z,e,h1.ext hx,h2.ext hx,h3.ext hx⟩
structure OkM (m:Mem) (n:Nat):Prop where
 out:n <= m.outside.length
 inf:n <= m.inflow.length
 bd:∀ k,k < m.inflow.length -> 0 <= ix m.inflow k /\ ix m.inflow k <= 1024
theorem Y1l (w:World) (v:Value) (m:Mem) (t:Nat) (n:Int) (c:Bool) (hv:X0q w v m) (ho:t < m.outside.length) (hi:t < m.inflow.length) (hn:0 <= n /\ n <= 100000) (hb:0 <= ix m.inflow t /\ ix m.inflow t <= 1024) :
    Calls Tryz.prog 173 #[v,.int .i64 (t:Int),.int .i64 n,.bool c] w fun e w'=>e=.returned (.tuple #[.int .i64 (m.stepT t n c).1,.int .i64 (m.stepT t n c).2]) /\ Ext w w':=by
 obtain ⟨x,y,z,rfl,hx,hy,hz⟩:=hv;obtain ⟨X,capx,rfl,-,-,-⟩:=hx.opened;obtain ⟨Y,capy,rfl,-,-,hcY⟩:=hy.opened;obtain ⟨Z,capz,rfl,-,-,hcZ⟩:=hz.opened;obtain ⟨by',oy,rfl,hcy⟩:=hcY t ho
 obtain ⟨bz,oz,rfl,hcz⟩:=hcZ t hi;have hbox:=Ext.box w (.cells #[.string m.name,.int .i64 m.weight,.slice X m.classes.length capx,.slice (some ⟨by',oy,none⟩) m.outside.length capy,.slice (some ⟨bz,oz,none⟩) m.inflow.length capz] 69)
 have K0:=Blk.made w 69 #[.string m.name,.int .i64 m.weight,.slice X m.classes.length capx,.slice (some ⟨by',oy,none⟩) m.outside.length capy,.slice (some ⟨bz,oz,none⟩) m.inflow.length capz]
 have c0:=(K0).cell 0;have c1:=(K0).cell 1;have c2:=(K0).cell 2;have c3:=(K0).cell 3;have c4:=(K0).cell 4;simp only [Go.Tw.gA,Go.Tw.gB,Go.Tw.gC] at c0 c1 c2 c3 c4;replace hcy:=hbox.cell hcy;replace hcz:=hbox.cell hcz;have htO:(t:Int) < m.outside.length:=by omega
 have htI:(t:Int) < m.inflow.length:=by omega
 clear hx hy hz hcY hcZ K0;cases c with
 | true =>
   have HS:Hid (m.stepT t n true=(n + ix m.inflow t,n + ix m.inflow t)):=hid rfl;have hwr:IntKind.i64.wrap (n + ix m.inflow t)=n + ix m.inflow t:=Q2v _ (by omega) (by omega)
   rw [HS.out];obtain ⟨d,hd⟩:∃ d,ix m.inflow t=d:=⟨_,rfl⟩;rw [hd] at hcz hwr ⊢;clear hd hb;go_enter Tryz.func173,Tryz.ntmps173;go_wp2;go_ret2;exact ⟨rfl,hbox⟩
 | false =>
   have HS:Hid (m.stepT t n false=(ix m.outside t,0)):=hid rfl;rw [HS.out];clear hb;go_enter Tryz.func173,Tryz.ntmps173;go_wp2;go_ret2;exact ⟨rfl,hbox⟩
theorem Y7k {m:Mem} {t:Nat} {n:Int} {c:Bool} {k:Nat} (hn:0 <= n /\ n <= 1024 * k) (hb:0 <= ix m.inflow t /\ ix m.inflow t <= 1024):0 <= (m.stepT t n c).2 /\ (m.stepT t n c).2 <= 1024 * ((k + 1:Nat):Int):=by
 unfold Mem.stepT;cases c with
 | true=>simp only [if_true]; omega
 | false=>simp only [Bool.false_eq_true,if_false]; omega
theorem X8q (w:World) (v u:Value) (m:Mem) (l:List Bool) (hv:X0q w v m) (hu:Q1q w u l) (hl9:l.length <= 9) (hm:OkM m l.length) :
    Calls Tryz.prog 127 #[v,u] w fun e w'=>∃ x,e=.returned x /\ Q0d w' x (m.X3n l) /\ Ext w w':=by
 obtain ⟨i0,hi,hz0,hz1,hz2⟩:=info_parts Tryz.info3;have HV:=hid hv;obtain ⟨x,y,z,rfl,hx,hy,hz⟩:=hv;obtain ⟨X,capx,rfl,-,-,-⟩:=hx.opened;obtain ⟨Y,capy,rfl,-,-,-⟩:=hy.opened;obtain ⟨Z,capz,rfl,-,-,-⟩:=hz.opened;obtain ⟨U,capu,rfl,-,-,hcU⟩:=hu.opened;have HCU:=hid hcU;have HM:=hid hm;clear hx hy hz hcU hu hm;go_enter Tryz.func127,Tryz.ntmps127;go_wp2_with fail;change Code.wp _ _ _ _ (w.alloc (.cells #[.string m.name,.int .i64 m.weight,.slice X m.classes.length capx,.slice Y m.outside.length capy,.slice Z m.inflow.length capz] 69));obtain ⟨W,hWW,k0,HXW,eW⟩:=Q1t w 69 #[.string m.name,.int .i64 m.weight,.slice X m.classes.length capx,.slice Y m.outside.length capy,.slice Z m.inflow.length capz];rw [hWW];clear hWW;have K0:=hid k0;clear k0
 go_loopw [5,6,13] (fun o lv t wr=>∃ (k:Nat) (n:Int) (pk:List Int),k <= l.length /\ t=.int .i64 k /\ lv=.int .i64 n /\ (0 <= n /\ n <= 1024 * k) /\ pk.length=k /\ pk ++ m.Q3e k n (l.drop k)=m.X3n l /\ Q0q wr W.heap.size 3 (.int .i64) o pk /\ Ext W wr) (fun _ _ t _=>l.length - (intOf t).toNat)
 case atStart=>exact ⟨0,0,[],Nat.zero_le _,rfl,rfl,⟨Int.le_refl _,by omega⟩,rfl,rfl,Q0q.nil _ _ _ _,Ext.refl _⟩
 case round =>
  obtain ⟨k,n,pk,hk,rfl,rfl,hn,hpk,hr,hown,hx⟩:=hrel;have HR:=hid hr;have HN:=hid hn;have HPK:=hid hpk;clear hr
  by_cases hlt:k < l.length
  . obtain ⟨bu,ou,rfl,-,hcu⟩:=HCU.out k hlt
    replace hcu:=(HXW.out.trans hx).cell hcu;have hst:=Z0u m l hlt n;have hbd:=HM.out.bd k (by have:=HM.out.inf; omega)
    have HLB:=hid (Y7k (c:=bx l k) hn hbd);have HCALL:=hid (fun wr (hx:Ext w wr)=>Y1l wr _ m k n (bx l k) (HV.out.ext hx) (by have:=HM.out.out; omega) (by have:=HM.out.inf; omega) ⟨hn.1,by omega⟩ hbd)
    obtain ⟨c,hc⟩:∃ c,bx l k=c:=⟨_,rfl⟩;rw [hc] at hcu hst HLB HCALL;obtain ⟨P,hP⟩:∃ P,(m.stepT k n c).1=P:=⟨_,rfl⟩;obtain ⟨Q,hQ⟩:∃ Q,(m.stepT k n c).2=Q:=⟨_,rfl⟩;rw [hP,hQ] at hst HCALL;rw [hQ] at HLB;have HST:=hid hst;have c0:=(K0.out.ext hx).cell 0;have c1:=(K0.out.ext hx).cell 1;have c2:=(K0.out.ext hx).cell 2;have c3:=(K0.out.ext hx).cell 3;have c4:=(K0.out.ext hx).cell 4;simp only [Go.Tw.gA,Go.Tw.gB,Go.Tw.gC] at c0 c1 c2 c3 c4;have hkI:(k:Int) < l.length:=by omega
    have HXX:=hid hx;have HOW:=hid hown;have hll:pk.length <= 4096:=by omega
    clear hst hP hQ hc hn hbd hown hpk hx
    go_light
    go_wp2_with (first | (go_at_call 173; refine (HCALL.out _ (HXW.out.trans HXX.out)).mono ?_; rintro e w5 ⟨rfl,hx5⟩; have hown:=HOW.out.below hx5; have hx6:=HXX.out.trans hx5) | (at_builtin; refine wpList_append_own _ rfl _ _ 22 rfl (W.heap.size) 3 i0 (.int .i64 0) 1 8 Tryz.underlying22 hi hz0 hz1 hz2 rfl (by decide) _ _ _ rfl (World.ownsRow.alloc hown _) ⟨w5.heap.size,0,none⟩ 1 1 [.int .i64 P] rfl rfl ?_ ?_ ?_ ?_ ?_ ?_; exact Q4p _ _ _; (focus (simp [Value.oneCell'])); (focus (unfold maxLen; omega)); (focus omega); (focus (have:=hx6.size; simp at this ⊢; omega)); intro v' w1 hown' hgrow _))
    have hx2:=Q2w hx6 hown (Nat.le_refl _) hgrow;go_roundw
    case rel=>exact ⟨k + 1,Q,pk ++ [P],by omega,by go_num,rfl,HLB.out,by rw [List.length_append,HPK.out]; rfl,by rw [<- HR.out,HST.out]; simp,Q0q.snoc hown',hx2⟩
    case measure=>simp [intOf]; omega
  . have HF:Hid (pk=m.X3n l):=hid (by rw [<- HR.out,List.drop_eq_nil_of_le (by omega)]; simp [Mem.Q3e])
    go_wp2;go_ret;exact ⟨_,rfl,by rw [<- HF.out]; exact hown.ints (by omega),HXW.out.trans hx⟩
theorem Y5p (W:World) (x lim:Int) (B:Nat) (hB:W.cell? ⟨B,0,none⟩=some (.int .i64 lim)) :
    Calls Tryz.prog 171 #[.int .i64 x,.pointer (some ⟨B,0,none⟩)] W fun e W'=>e=.returned (.bool (decide (lim < x))) /\ Ext W W':=by
 go_enter Tryz.func171,Tryz.ntmps171;go_wp2;go_ret;exact ⟨rfl,Ext.refl _⟩
theorem Q8y (w:World) (v u:Value) (m:Mem) (lim:Int) (l:List Bool) (hv:X0q w v m) (hu:Q1q w u l) (hl9:l.length <= 9) (hm:OkM m l.length) :
    Calls Tryz.prog 113 #[v,.int .i64 lim,u] w fun e w'=>e=.returned (.bool (m.keeps lim l)) /\ Ext w w':=by
 have HV:=hid hv;obtain ⟨x,y,z,rfl,hx,hy,hz⟩:=hv;obtain ⟨X,capx,rfl,-,-,-⟩:=hx.opened;obtain ⟨Y,capy,rfl,-,-,-⟩:=hy.opened;obtain ⟨Z,capz,rfl,-,-,-⟩:=hz.opened;have HU:=hid hu;obtain ⟨U,capu,rfl,-,-,-⟩:=hu.opened;have HM:=hid hm;have HKE:Hid (m.keeps lim l = !((m.X3n l).any fun x=>decide (lim < x))):=hid rfl;have HPL:=hid (Z1w m l);clear hx hy hz hu hm;go_enter Tryz.func113,Tryz.ntmps113;go_wp2_with fail;change Calls _ _ _ ((w.alloc (.cells #[.string m.name,.int .i64 m.weight,.slice X m.classes.length capx,.slice Y m.outside.length capy,.slice Z m.inflow.length capz] 69)).alloc (.cells #[.int .i64 lim] 3)) _;obtain ⟨W,hWW,k0,k1,HXW,eW⟩:=Q4e w 69 #[.string m.name,.int .i64 m.weight,.slice X m.classes.length capx,.slice Y m.outside.length capy,.slice Z m.inflow.length capz] 3 #[.int .i64 lim];rw [hWW];clear hWW;have K1:=hid k1;clear k0 k1;refine (X8q _ _ _ m l (HV.out.ext HXW.out) (HU.out.ext HXW.out) hl9 HM.out).mono ?_;rintro e w5 ⟨pv,rfl,hp,hx5⟩;have HCF:=hid (X6s w5 pv (m.X3n l) 171 (.pointer (some ⟨w.heap.size + 1,0,none⟩)) (fun x=>decide (lim < x)) hp (enters_of Tryz.func171 (by kernel_rfl) rfl) (fun W' x hx _=>Y5p W' x lim _ ((K1.out.ext (hx5.trans hx)).cell 0)))
 obtain ⟨q,hq⟩:∃ q,((m.X3n l).any fun x=>decide (lim < x))=q:=⟨_,rfl⟩
 rw [hq] at HCF HKE;obtain ⟨P,capp,rfl,-,-,-⟩:=hp.opened;have HX5:=hid (HXW.out.trans hx5);clear hp hx5 hq;go_wp2_with (go_at_call 138; refine HCF.out.mono ?_; rintro e w6 ⟨rfl,hx6⟩);go_ret;exact ⟨Q0u HKE.out.symm,HX5.out.trans hx6⟩
end Go.Proofs
namespace Go.Tw
theorem Z1a {l:List (List Int)} (h:Asc l):l.Nodup:=h.imp fun h e=>by subst e; exact Q6j _ h
theorem Q4h {h:List (List Int)} {p:List Rul}:Q2d h p=0 ↔ p.map Rul.classes=h:=by
 unfold Q2d
 constructor
 . intro e
   split at e
   . cases e
   . split at e
     . cases e
     . rename_i h2; exact Decidable.not_not.1 h2
 . intro e
   have hl:p.length=h.length:=by rw [<- e,List.length_map]
   rw [if_neg (fun hn=>hn hl),if_neg (fun hn=>hn e)]
end Go.Tw
namespace Go.Tw
theorem Q7f {p:List Rul} {k:Nat} (hk:k < p.length):Q0n p k=p[k].classes:=by unfold Q0n; rw [Q0v _ hk]
theorem Z3m {p:List Rul} {k:Nat} (hk:k < p.length):Q3p p k=p[k].close:=by unfold Q3p; rw [Q0v _ hk]
end Go.Tw
namespace Go.Tw
open Go.RowKit Go.Flow
def X0r (s:ByteArray):List (ByteArray × Value) -> Option Value
 | []=>none
 | p :: l=>if (s == p.1)=true then some p.2 else X0r s l
def Y8c (s:ByteArray) (v:Value):List (ByteArray × Value) -> List (ByteArray × Value)
 | []=>[(s,v)]
 | p :: l=>if (s == p.1)=true then (s,v) :: l else p :: Y8c s v l
def Q5e (w:World) (b:Nat) (l:List (ByteArray × Value)):Prop :=
 ∃ a clock,w.heap[b]?=some (.map a clock) /\ a.toList.map (fun e=>(e.key,e.val))=l.map fun p=>(Value.string p.1,p.2)
theorem Q5e.made (w:World):Q5e (w.alloc (.map #[] 0)) w.heap.size []:=⟨#[],0,by show (w.heap.push _)[w.heap.size]?=_; simp,rfl⟩
theorem Q5e.ext {w w':World} {b:Nat} {l:List (ByteArray × Value)} (h:Q5e w b l) (hx:Ext w w'):Q5e w' b l:=by
 obtain ⟨a,c,hb,he⟩:=h;exact ⟨a,c,by rw [Below.block hx b (Array.getElem?_eq_some_iff.1 hb).1]; exact hb,he⟩
theorem Q5e.lt {w:World} {b:Nat} {l:List (ByteArray × Value)} (h:Q5e w b l):b < w.heap.size:=by
 obtain ⟨a,c,hb,_⟩:=h;exact (Array.getElem?_eq_some_iff.1 hb).1
theorem X4t (s:ByteArray):∀ (es:List MapEntry) (l:List (ByteArray × Value)) (i:Nat),es.map (fun e=>(e.key,e.val))=l.map (fun p=>(Value.string p.1,p.2)) ->
    ∃ r,Instr.findNow .string (.string s) es i=some r /\ r.map (·.2)=X0r s l
 | [],[],i,_=>⟨none,rfl,rfl⟩
 | [],_ :: _,_,h=>by simp at h
 | _ :: _,[],_,h=>by simp at h
 | e :: es,p :: l,i,h=>by
   simp only [List.map_cons,List.cons.injEq,Prod.mk.injEq] at h;obtain ⟨⟨h1,h2⟩,h3⟩:=h;unfold Instr.findNow X0r;simp only [h1,Instr.sameNow,h2];cases hs:(s == p.1) with
   | true=>exact ⟨some (i,p.2),by simp,by simp⟩
   | false =>
     obtain ⟨r,hr,hf⟩:=X4t s es l (i + 1) h3;exact ⟨r,by simpa using hr,by simpa using hf⟩
theorem Z5a (s:ByteArray):(s == s)=true:=str_eq rfl
theorem Z8d {a b:ByteArray} (h:(a == b)=true):a=b:=by
 cases hb:decide (a=b) with
 | true=>exact of_decide_eq_true hb
 | false=>rw [X1c (of_decide_eq_false hb)] at h; cases h
theorem X8f (s:ByteArray):∀ (es:List MapEntry) (l:List (ByteArray × Value)) (i:Nat),es.map (fun e=>(e.key,e.val))=l.map (fun p=>(Value.string p.1,p.2)) ->
    (Instr.findNow .string (.string s) es i=some none /\ ∀ v,Y8c s v l=l ++ [(s,v)]) ∨
    (∃ j x,Instr.findNow .string (.string s) es i=some (some (i + j,x)) /\ j < es.length /\ (∃ e,es[j]?=some e /\ e.key=.string s) /\ ∀ v e,e.key=Value.string s -> e.val=v ->
     (es.set j e).map (fun e=>(e.key,e.val))=(Y8c s v l).map (fun p=>(Value.string p.1,p.2)))
 | [],[],i,_=>.inl ⟨rfl,fun v=>rfl⟩
 | [],_ :: _,_,h=>by simp at h
 | _ :: _,[],_,h=>by simp at h
 | e :: es,p :: l,i,h=>by
   simp only [List.map_cons,List.cons.injEq,Prod.mk.injEq] at h;obtain ⟨⟨h1,h2⟩,h3⟩:=h;cases hs:(s == p.1) with
   | true =>
     have hsp:=Z8d hs;refine .inr ⟨0,e.val,?_,by simp,⟨e,rfl,by rw [h1,hsp]⟩,fun v e' h4 h5=>?_⟩
     . unfold Instr.findNow
       simp only [h1,Instr.sameNow,hs]; rfl
     . unfold Y8c
       rw [if_pos hs];simp [h4,h5,h3]
   | false =>
     have hn:¬ (s == p.1)=true:=by rw [hs]; simp
     rcases X8f s es l (i + 1) h3 with ⟨ha,hb⟩ | ⟨j,x,ha,hj,⟨e0,he0,hk0⟩,hb⟩
     . refine .inl ⟨?_,fun v=>?_⟩
       . unfold Instr.findNow
         simp only [h1,Instr.sameNow,hs]; exact ha
       . unfold Y8c
         rw [if_neg hn,hb v]; rfl
     . refine .inr ⟨j + 1,x,?_,by simp; omega,⟨e0,by simpa using he0,hk0⟩,fun v e' h4 h5=>?_⟩
       . unfold Instr.findNow
         simp only [h1,Instr.sameNow,hs];rw [show i + (j + 1)=i + 1 + j from by omega]; exact ha
       . unfold Y8c
         rw [if_neg hn];simp only [List.set_cons_succ,List.map_cons,h1,h2];rw [hb v e' h4 h5]
theorem X1y {P:Program} {w:World} {r:Nat} {es:Array MapEntry} {clock:Nat} (hb:w.heap[r]?=some (.map es clock)):(getObj r).run P w=.ok (.map es clock) w:=by
 simp [getObj,Sem.run,hb]
theorem X8r {P:Program} {w:World} {r:Nat} {es:Array MapEntry} {clock:Nat} (o:Obj) (hb:w.heap[r]?=some (.map es clock)):(setObj r o).run P w=.ok () { w with heap:=w.heap.setIfInBounds r o }:=by
 simp [setObj,Sem.run,hb]
theorem X1p {P:Program} {w:World} {k:TypeId} (hk:P.underlying k=some .string) (e:Bool) (s:ByteArray) (n:Nat):(Instr.checkKey e (n + 1) k (.string s)).run P w=.ok () w:=by
 unfold Instr.checkKey;simp only [Sem.run_bind,run_underlying hk,Result.andThen_ok,Sem.run_pure]
theorem X6x {P:Program} {w:World} {b:Nat} {l:List (ByteArray × Value)} (h:Q5e w b l) {t k e:TypeId} (ht:P.underlying t=some (.map k e)) (hk:P.underlying k=some .string) {z:Value} (hz:(zeroValue e).run P w=.ok z w) (s:ByteArray) (ok:Bool) :
    (Instr.lookup t (.map (some b)) (.string s) ok).run P w=.ok (if ok then .tuple #[(X0r s l).getD z,.bool (X0r s l).isSome] else (X0r s l).getD z) w:=by
 obtain ⟨a,clock,hb,he⟩:=h;obtain ⟨r,hr,hf⟩:=X4t s a.toList l 0 he;unfold Instr.lookup;simp only [Sem.run_bind,run_underlying ht,Result.andThen_ok,X1y hb,Sem.run_pure,X1p hk _ s 9999,Instr.findKey,run_underlying hk,hr];rw [<- hf];cases r with
 | none=>simp only [Sem.run_bind,hz,Result.andThen_ok,Sem.run_pure]; cases ok <;> rfl
 | some p=>cases ok <;> rfl
theorem Y5t {P:Program} {w:World} {b:Nat} {l:List (ByteArray × Value)} (h:Q5e w b l) {t k e:TypeId} (ht:P.underlying t=some (.map k e)) (hk:P.underlying k=some .string) (s:ByteArray) (v:Value) :
    ∃ w',(Instr.mapUpdate t (.map (some b)) (.string s) v).run P w=.ok () w' /\ Q5e w' b (Y8c s v l) /\ (∀ n,n <= b -> Below n w w') /\ w.grownBy w' (some b):=by
 obtain ⟨a,clock,hb,he⟩:=h;have hlt:=(Array.getElem?_eq_some_iff.1 hb).1;have hbel:∀ o n,n <= b -> Below n w { w with heap:=w.heap.setIfInBounds b o }:=fun o n hn =>
  ⟨rfl,rfl,rfl,by simp,fun k hk'=>by show (w.heap.setIfInBounds b o)[k]?=_; rw [Array.getElem?_setIfInBounds_ne (by omega)]⟩
 have hgr:∀ o,w.grownBy { w with heap:=w.heap.setIfInBounds b o } (some b):=fun o =>
  ⟨rfl,rfl,rfl,by simp,fun k _ hk'=>by show (w.heap.setIfInBounds b o)[k]?=_; rw [Array.getElem?_setIfInBounds_ne (fun e=>hk' (by rw [e]))]⟩
 rcases X8f s a.toList l 0 he with ⟨hr,hp⟩ | ⟨j,x,hr,hj,⟨e0,he0,hk0⟩,hp⟩
 . refine ⟨{ w with heap:=w.heap.setIfInBounds b (.map (a.push ⟨.string s,v,clock⟩) (clock + 1)) },?_,⟨a.push ⟨.string s,v,clock⟩,clock + 1,?_,?_⟩,hbel _,hgr _⟩
   . unfold Instr.mapUpdate
     simp only [Sem.run_bind,run_underlying ht,Result.andThen_ok,X1y hb,Sem.run_pure,X1p hk _ s 9999,Instr.findKey,run_underlying hk,hr];exact X8r _ hb
   . show (w.heap.setIfInBounds b _)[b]?=_; simp [hlt]
   . rw [hp v]; simp [he]
 . rw [Nat.zero_add] at hr
   have he0':a[j]?=some e0:=by simpa using he0
   refine ⟨{ w with heap:=w.heap.setIfInBounds b (.map (a.modify j fun e=>{ e with key:=.string s,val:=v }) clock) },?_,⟨a.modify j fun e=>{ e with key:=.string s,val:=v },clock,?_,?_⟩,hbel _,hgr _⟩
   . unfold Instr.mapUpdate
     simp only [Sem.run_bind,run_underlying ht,Result.andThen_ok,X1y hb,Sem.run_pure,X1p hk _ s 9999,Instr.findKey,run_underlying hk,hr,he0',Option.map_some,Option.getD_some,hk0];have hkt:(Instr.keyThatStays (.string s) (.string s)).run P w=.ok (.string s) w:=by
      unfold Instr.keyThatStays;rw [if_pos (by unfold Instr.sameBits; exact Z5a s)]; rfl
     simp only [hkt,Result.andThen_ok];exact X8r _ hb
   . show (w.heap.setIfInBounds b _)[b]?=_; simp [hlt]
   . have:=hp v { e0 with key:=.string s,val:=v } rfl rfl
     rw [<- this]
     congr 1
     apply List.ext_getElem?
     intro i;rw [Array.getElem?_toList,Array.getElem?_modify,List.getElem?_set]
     by_cases hij:j=i
     . subst hij
       have hja:j < a.size:=by simpa using hj
       simp only [he0',Option.map_some,if_true,Array.length_toList,hja]
     . simp [hij]
end Go.Tw
namespace Go.Tw
open Go.RowKit
theorem Y4h (s k:ByteArray) (v:Value):∀ l,X0r k (Y8c s v l)=if k=s then some v else X0r k l
 | []=>by
   unfold Y8c X0r
   by_cases h:k=s
   . rw [if_pos (str_eq h),if_pos h]
   . rw [if_neg (by rw [X1c h]; simp),if_neg h]; rfl
 | p :: l=>by
   unfold Y8c
   by_cases hs:s=p.1
   . rw [if_pos (str_eq hs)]
     by_cases h:k=s
     . simp only [X0r]; rw [if_pos (str_eq h),if_pos h]
     . simp only [X0r]; rw [if_neg (by rw [X1c h]; simp),if_neg h,if_neg (by rw [<- hs,X1c h]; simp)]
   . rw [if_neg (by rw [X1c hs]; simp)]
     simp only [X0r]
     by_cases hk:k=p.1
     . rw [if_pos (str_eq hk),if_pos (str_eq hk),if_neg (fun e=>hs (by rw [<- e,hk]))]
     . have h1:¬ (k == p.1)=true:=by rw [X1c hk]; simp
       rw [if_neg h1,Y4h s k v l]
       by_cases h:k=s
       . rw [if_pos h,if_pos h]
       . rw [if_neg h,if_neg h,if_neg h1]
def Q6g (p:List Rul):Nat -> List (ByteArray × Value)
 | 0=>[]
 | k + 1=>Y8c (Q5x (Q0n p k)) (.bool (Q3p p k)) (Q6g p k)
theorem Z2m (p:List Rul) (r:Rul) (h:List Int) (hn:h=r.classes -> h ∉ p.map Rul.classes):look (p ++ [r]) h=if h=r.classes then r.close else look p h:=by
 unfold look;rw [List.find?_append]
 by_cases he:h=r.classes
 . have h0:p.find? (fun x=>x.classes == h)=none:=by
    rw [List.find?_eq_none];intro x hx hxe;exact hn he (List.mem_map.2 ⟨x,hx,by simpa using hxe⟩)
   rw [h0,if_pos he];simp [he]
 . rw [if_neg he]
   have h1:(r.classes == h)=false:=by rw [beq_eq_false_iff_ne]; exact fun e=>he e.symm
   cases hf:p.find? (fun x=>x.classes == h) with
   | some x=>simp
   | none=>simp [h1]
theorem Y7n {p:List Rul} (hn:(p.map Rul.classes).Nodup) (hd:∀ k,k < p.length -> Digits (Q0n p k)) {h:List Int} (hh:Digits h) :
    ∀ k,k <= p.length -> (X0r (Q5x h) (Q6g p k)).getD (.bool false)=.bool (look (p.take k) h)
 | 0,_=>rfl
 | k + 1,hk=>by
   have hlt:k < p.length:=by omega
   rw [Q6g,Y4h,List.take_succ_eq_append_getElem hlt];have hnot:h=p[k].classes -> h ∉ (p.take k).map Rul.classes:=by
    rintro rfl hm;obtain ⟨x,hx,he⟩:=List.mem_map.1 hm;obtain ⟨j,hj,rfl⟩:=List.getElem_of_mem hx;rw [List.length_take] at hj;rw [List.getElem_take] at he;have hpw:=List.pairwise_iff_getElem.1 hn j k (by simp; omega) (by simpa using hlt) (by omega)
    simp only [List.getElem_map] at hpw;exact hpw he
   rw [Z2m _ _ _ hnot]
   by_cases he:h=p[k].classes
   . rw [if_pos he,if_pos (by rw [he,Q7f hlt]),Z3m hlt]; rfl
   . rw [if_neg he,if_neg (fun e=>he (by rw [Y8h hh (hd k hlt) e,Q7f hlt]))]
     exact Y7n hn hd hh k (by omega)
theorem Y2h {p:List Rul} (hn:(p.map Rul.classes).Nodup) (hd:∀ k,k < p.length -> Digits (Q0n p k)) {h:List Int} (hh:Digits h) :
    (X0r (Q5x h) (Q6g p p.length)).getD (.bool false)=.bool (look p h):=by
 rw [Y7n hn hd hh _ (Nat.le_refl _),List.take_length]
end Go.Tw
namespace Go.Tw
open Go.RowKit Go.Flow
def idV (x:Value):Value:=x
def Reads (w:World) (vs:List Value) (ll:List (List Int)):Prop:=vs.length=ll.length /\ ∀ i,i < ll.length -> Q0d w (vs.getD i undef) (ll.getD i [])
theorem Reads.ext {w w':World} {vs:List Value} {ll:List (List Int)} (h:Reads w vs ll) (hx:Ext w w'):Reads w' vs ll:=⟨h.1,fun i hi=>(h.2 i hi).ext hx⟩
theorem Q0d.below {w w':World} {B:Nat} {v:Value} {l:List Int} (h:Q0d w v l) (hb:Below B w w') (hlow:∀ b o c,v=.slice (some ⟨b,o,none⟩) l.length c -> l ≠ [] -> b < B):Q0d w' v l:=by
 obtain ⟨c,⟨A,cap,hv,hn,hcap,hc⟩,h2⟩:=h;refine ⟨c,⟨A,cap,hv,hn,hcap,fun j hj=>?_⟩,h2⟩;obtain ⟨b,off,hA,h⟩:=hc j hj;refine ⟨b,off,hA,?_⟩;have:b < B:=hlow b off cap (by rw [hv,hA]) (fun e=>by rw [e] at hj; simp at hj)
 exact (hb.cell (p:=⟨b,off + j,none⟩) this).trans h
theorem Reads.snoc {w:World} {vs:List Value} {ll:List (List Int)} {v:Value} {l:List Int} (h:Reads w vs ll) (hv:Q0d w v l):Reads w (vs ++ [v]) (ll ++ [l]):=by
 refine ⟨by simp [h.1],fun i hi=>?_⟩
 rw [List.length_append,List.length_singleton] at hi
 by_cases hlt:i < ll.length
 . have e1:(vs ++ [v]).getD i undef=vs.getD i undef:=by simp [List.getElem?_append_left (show i < vs.length by rw [h.1]; exact hlt)]
   have e2:(ll ++ [l]).getD i []=ll.getD i []:=by simp [List.getElem?_append_left hlt]
   rw [e1,e2]; exact h.2 i hlt
 . have e:i=ll.length:=by omega
   have e1:(vs ++ [v]).getD i undef=v:=by rw [e,<- h.1]; simp
   have e2:(ll ++ [l]).getD i []=l:=by rw [e]; simp
   rw [e1,e2]; exact hv
theorem Q0q.Z9a {w:World} {base:Nat} {e:TypeId} {v:Value} {vs:List Value} {ll:List (List Int)} (h:Q0q w base e idV v vs) (hr:Reads w vs ll) (hl:ll.length <= 17592186043904):Q2z w v ll:=by
 refine ⟨fun k=>vs.getD k undef,?_,fun j hj=>?_⟩
 . rw [<- hr.1]
   exact h.row (by rw [hr.1]; exact hl) _ (fun k hk=>by simp [hk,idV])
 . have:=hr.2 j hj
   rw [Q0v _ hj] at this
   simpa using this
theorem Q2z.opened {w:World} {v:Value} {ll:List (List Int)} (h:Q2z w v ll) :
    ∃ A cap,v=.slice A ll.length cap /\ ll.length <= 17592186043904 /\ ll.length <= cap /\ ∀ k,k < ll.length -> ∃ b off m,A=some ⟨b,off,none⟩ /\ b < w.heap.size /\ w.cell? ⟨b,off + k,none⟩=some m /\ Q0d w m (ll.getD k []):=by
 obtain ⟨c,⟨A,cap,hv,hn,hcap,hc⟩,h2⟩:=h;refine ⟨A,cap,hv,hn,hcap,fun k hk=>?_⟩;obtain ⟨b,off,hA,h⟩:=hc k (by omega)
 refine ⟨b,off,c k,hA,World.block_lt_of_cell? w _ h,h,?_⟩;have:=h2 k hk;simp only [Nat.mul_one,Nat.add_zero] at this;rw [Q0v _ hk]; exact this
theorem Q0q.cells {α:Type} {w:World} {base:Nat} {e:TypeId} {enc:α -> Value} {v:Value} {xs:List α} (h:Q0q w base e enc v xs) :
    ∃ A c,v=.slice A xs.length c /\ xs.length <= c /\ (∀ j (hj:j < xs.length),∃ g,A=some ⟨g,0,none⟩ /\ base <= g /\ g < w.heap.size /\ w.cell? ⟨g,0 + j,none⟩=some (enc xs[j])):=by
 obtain ⟨_,h2⟩:=h
 rcases h2 with ⟨rfl,h0⟩ | ⟨g,cap,cur,rfl,hb,hg,hcap,_,_,htake⟩
 . exact ⟨none,0,by rw [h0],by omega,fun j hj=>by omega⟩
 . refine ⟨some ⟨g,0,none⟩,cap,rfl,hcap,fun j hj=>⟨g,rfl,hb,(Array.getElem?_eq_some_iff.1 hg).1,?_⟩⟩
   rw [Nat.zero_add];have h1:=congrArg (fun l=>l[j]?) htake;simp only [Nat.mul_one,List.getElem?_take,hj,if_true,List.getElem?_map,List.getElem?_eq_getElem hj,Option.map_some] at h1;simp only [World.cell?,hg]
   simpa using h1
theorem Q0q.cells2 {α:Type} {w:World} {base:Nat} {e:TypeId} {enc:α -> Value} {v:Value} {xs:List α} (h:Q0q w base e enc v xs) :
    (v=.slice none 0 0 /\ xs=[]) ∨ ∃ g c,v=.slice (some ⟨g,0,none⟩) xs.length c /\ xs.length <= c /\ base <= g /\ g < w.heap.size /\ ∀ j (hj:j < xs.length),w.cell? ⟨g,0 + j,none⟩=some (enc xs[j]):=by
 obtain ⟨_,h2⟩:=h
 rcases h2 with ⟨rfl,h0⟩ | ⟨g,cap,cur,rfl,hb,hg,hcap,_,_,htake⟩
 . exact .inl ⟨rfl,List.length_eq_zero_iff.1 h0⟩
 . refine .inr ⟨g,cap,rfl,hcap,hb,(Array.getElem?_eq_some_iff.1 hg).1,fun j hj=>?_⟩
   rw [Nat.zero_add];have h1:=congrArg (fun l=>l[j]?) htake;simp only [Nat.mul_one,List.getElem?_take,hj,if_true,List.getElem?_map,List.getElem?_eq_getElem hj,Option.map_some] at h1;simp only [World.cell?,hg]
   simpa using h1
theorem Q0q.weaken {α:Type} {w:World} {base base':Nat} {e:TypeId} {enc:α -> Value} {v:Value} {xs:List α} (h:Q0q w base e enc v xs) (hb:base' <= base):Q0q w base' e enc v xs:=by
 obtain ⟨h1,h2⟩:=h;refine ⟨h1,?_⟩
 rcases h2 with h2 | ⟨g,cap,cur,hv,hbg,r⟩
 . exact .inl h2
 . exact .inr ⟨g,cap,cur,hv,Nat.le_trans hb hbg,r⟩
theorem Q0d.one {w:World} {v:Value} {l:List Int} (h:Q0d w v l):(idV v).oneCell'=true:=by
 obtain ⟨A,cap,rfl,_⟩:=h.opened;rfl
theorem Q0d.cells {w:World} {v:Value} {l:List Int} (h:Q0d w v l):v.cells=#[v]:=by
 obtain ⟨A,cap,rfl,_⟩:=h.opened;rfl
theorem Reads.one {w:World} {vs:List Value} {ll:List (List Int)} (h:Reads w vs ll):∀ y ∈ vs,(idV y).oneCell'=true:=by
 intro y hy;obtain ⟨i,hi,rfl⟩:=List.getElem_of_mem hy;have:=h.2 i (by rw [<- h.1]; exact hi)
 rw [Q0v _ hi] at this;exact this.one
def X0u (w:World) (v:Value) (B:Nat) (e:TypeId):Prop:=∃ g,v=.slice (some ⟨g,0,none⟩) 0 0 /\ B <= g /\ w.heap[g]?=some (.cells #[] e (0,0))
theorem X0u.ext {w w':World} {v:Value} {B:Nat} {e:TypeId} (h:X0u w v B e) (hx:Ext w w'):X0u w' v B e :=
 let ⟨g,h1,h2,h3⟩:=h; ⟨g,h1,h2,(Below.block hx g (Array.getElem?_eq_some_iff.1 h3).1).trans h3⟩
theorem X0u.made (w:World) (B:Nat) (e:TypeId) (h:B <= w.heap.size):X0u (w.alloc (.cells #[] e)) (.slice (some ⟨w.heap.size,0,none⟩) 0 0) B e:=⟨_,rfl,h,heap_alloc_new w _⟩
def Q6p (w:World) (v:Value) (x:Value):Prop:=∃ g,v=.slice (some ⟨g,0,none⟩) 1 1 /\ w.cell? ⟨g,0,none⟩=some x
theorem Q6p.ext {w w':World} {v x:Value} (h:Q6p w v x) (hx:Ext w w'):Q6p w' v x:=let ⟨g,h1,h2⟩:=h; ⟨g,h1,hx.cell h2⟩
theorem Q6p.made (w:World) (x:Value) (e:TypeId):Q6p (w.alloc (.cells #[x] e)) (.slice (some ⟨w.heap.size,0,none⟩) 1 1) x:=⟨_,rfl,X9z _ _ _ _⟩
theorem Q6p.src {w:World} {v x:Value} (h:Q6p w v x):Src w idV v [x]:=by
 obtain ⟨g,rfl,hc⟩:=h;refine ⟨_,_,rfl,fun j hj=>⟨g,0,rfl,?_⟩⟩;obtain rfl:j=0:=by rw [List.length_singleton] at hj; omega
 exact hc
theorem Q0d.made (w:World) (xs:List Int) (e:TypeId) (h:xs.length <= 17592186043904):Q0d (w.alloc (.cells (xs.map (Value.int .i64)).toArray e)) (.slice (some ⟨w.heap.size,0,none⟩) xs.length xs.length) xs:=by
 refine ⟨fun k=>((xs.map (Value.int .i64))[k]?).getD undef,⟨_,_,rfl,h,Nat.le_refl _,fun j hj=>⟨_,0,rfl,?_⟩⟩,fun j hj=>?_⟩
 . have hj':j < xs.length:=by omega
   rw [Nat.zero_add,X9z];simp [hj']
 . simp [hj]
end Go.Tw
namespace Go.Tw
open Go.RowKit
def Q1i (p:Prop):Prop:=p
theorem halted {p:Prop} (h:Q1i p):p:=h
def Q3g:World -> Value -> List (List Bool) -> Prop:=Rows 1 fun w c x=>Q1q w (c 0) x
theorem Q3g.ext {w w':World} {v:Value} {l:List (List Bool)} (h:Q3g w v l) (hx:Ext w w'):Q3g w' v l:=Rows.ext (fun _ _ _ _ hx h=>h.ext hx) h hx
theorem Q3g.opened {w:World} {v:Value} {ll:List (List Bool)} (h:Q3g w v ll) :
    ∃ A cap,v=.slice A ll.length cap /\ ll.length <= 17592186043904 /\ ll.length <= cap /\ ∀ k,k < ll.length -> ∃ b off x,A=some ⟨b,off,none⟩ /\ b < w.heap.size /\
     w.cell? ⟨b,off + k,none⟩=some x /\ Q1q w x (ll.getD k []):=by
 obtain ⟨c,⟨A,cap,hv,hn,hcap,hc⟩,h2⟩:=h;refine ⟨A,cap,hv,by omega,by omega,fun k hk=>?_⟩
 obtain ⟨b,off,hA,h0⟩:=hc k (by omega)
 refine ⟨b,off,c k,hA,World.block_lt_of_cell? w _ h0,h0,?_⟩;have h3:=h2 k hk;rw [Q0v _ hk]
 simpa using h3
def Q9k (w:World) (vs:List Value) (ll:List (List Bool)):Prop:=vs.length=ll.length /\ ∀ i,i < ll.length -> Q1q w (vs.getD i undef) (ll.getD i [])
theorem Q9k.nil (w:World):Q9k w [] []:=⟨rfl,fun _ hi=>absurd hi (Nat.not_lt_zero _)⟩
theorem Q9k.ext {w w':World} {vs:List Value} {ll:List (List Bool)} (h:Q9k w vs ll) (hx:Ext w w'):Q9k w' vs ll:=⟨h.1,fun i hi=>(h.2 i hi).ext hx⟩
theorem Q9k.snoc {w:World} {vs:List Value} {ll:List (List Bool)} {v:Value} {l:List Bool} (h:Q9k w vs ll) (hv:Q1q w v l):Q9k w (vs ++ [v]) (ll ++ [l]):=by
 refine ⟨by simp [h.1],fun i hi=>?_⟩
 by_cases hlt:i < ll.length
 . have e1:(vs ++ [v]).getD i undef=vs.getD i undef:=by simp [List.getD_eq_getElem?_getD,List.getElem?_append_left (show i < vs.length by rw [h.1]; exact hlt)]
   have e2:(ll ++ [l]).getD i []=ll.getD i []:=by simp [List.getD_eq_getElem?_getD,List.getElem?_append_left hlt]
   rw [e1,e2]; exact h.2 i hlt
 . have he:i=ll.length:=by simp at hi; omega
   subst he;have e1:(vs ++ [v]).getD ll.length undef=v:=by rw [<- h.1]; simp
   have e2:(ll ++ [l]).getD ll.length []=l:=by simp
   rw [e1,e2]; exact hv
theorem Q0q.J0l {w:World} {base:Nat} {e:TypeId} {v:Value} {vs:List Value} {ll:List (List Bool)} (h:Q0q w base e idV v vs) (hr:Q9k w vs ll) (hl:ll.length <= 17592186043904):Q3g w v ll:=by
 refine ⟨fun k=>vs.getD k undef,?_,fun j hj=>?_⟩
 . rw [<- hr.1]
   exact h.row (by rw [hr.1]; exact hl) _ (fun k hk=>by simp [hk,idV])
 . have:=hr.2 j hj
   rw [Q0v _ hj] at this
   simpa using this
theorem X8c {α β:Type} {w w':World} {b1 b2:Nat} {T E:TypeId} {enc:α -> Value} {enc':β -> Value} {u v:Value} {l:List α} {us:List β} (h:Q0q w b1 T enc u l) (ho:Q0q w b2 E enc' v us) (hTE:T ≠ E) (hg:w.grownBy w' v.ownBlock):Q0q w' b1 T enc u l:=by
 obtain ⟨h1,h2⟩:=h;refine ⟨h1,?_⟩
 rcases h2 with h2 | ⟨g,cap,cur,hv,hbg,hgl,r⟩
 . exact .inl h2
 . refine .inr ⟨g,cap,cur,hv,hbg,(hg.block g (Array.getElem?_eq_some_iff.1 hgl).1 fun e=>?_).trans hgl,r⟩
   obtain ⟨o1,o2⟩:=ho
   rcases o2 with ⟨rfl,_⟩ | ⟨g',cap',cur',rfl,_,hg',_⟩
   . cases e
   . obtain rfl:g'=g:=by simpa [Value.ownBlock,eq_comm] using e
     rw [hgl] at hg';injection hg' with h;injection h with _ h;exact hTE h
theorem Y8k {α:Type} {w:World} {b g k:Nat} {T S:TypeId} {enc:α -> Value} {u x:Value} {l:List α} {cs:Array Value} (h:Q0q w b T enc u l) (hb:Blk w g S cs) (hTS:S ≠ T):Q0q (w.setCell ⟨g,k,none⟩ x) b T enc u l:=by
 obtain ⟨h1,h2⟩:=h;refine ⟨h1,?_⟩
 rcases h2 with h2 | ⟨g',cap,cur,hv,hbg,hgl,r⟩
 . exact .inl h2
 . refine .inr ⟨g',cap,cur,hv,hbg,?_,r⟩
   rw [Q2p w ⟨g,k,none⟩ x g' (fun e=>?_)]; exact hgl;have e':g'=g:=e;subst e';unfold Blk at hb;rw [hb] at hgl;injection hgl with h;injection h with _ h;exact hTS h
def Q9f {α:Type} (w:World) (T:TypeId) (enc:α -> Value) (vs:List Value) (ll:List (List α)):Prop:=vs.length=ll.length /\ ∀ i,i < ll.length -> Q0q w 0 T enc (vs.getD i undef) (ll.getD i [])
section
variable {α:Type} {w w':World} {T:TypeId} {enc:α -> Value} {vs:List Value} {ll:List (List α)}
theorem Q9f.nil (w:World) (T:TypeId) (enc:α -> Value):Q9f w T enc [] []:=⟨rfl,fun _ hi=>absurd hi (Nat.not_lt_zero _)⟩
theorem Q9f.ext (h:Q9f w T enc vs ll) (hx:Ext w w'):Q9f w' T enc vs ll:=⟨h.1,fun i hi=>(h.2 i hi).below hx⟩
theorem Q9f.grown {β:Type} {b2:Nat} {E:TypeId} {enc':β -> Value} {v:Value} {us:List β} (h:Q9f w T enc vs ll) (ho:Q0q w b2 E enc' v us) (hTE:T ≠ E) (hg:w.grownBy w' v.ownBlock):Q9f w' T enc vs ll :=
 ⟨h.1,fun i hi=>X8c (h.2 i hi) ho hTE hg⟩
theorem Q9f.snoc {v:Value} {l:List α} {b:Nat} (h:Q9f w T enc vs ll) (hv:Q0q w b T enc v l):Q9f w T enc (vs ++ [v]) (ll ++ [l]):=by
 refine ⟨by simp [h.1],fun i hi=>?_⟩
 by_cases hlt:i < ll.length
 . have e1:(vs ++ [v]).getD i undef=vs.getD i undef:=by simp [List.getD_eq_getElem?_getD,List.getElem?_append_left (show i < vs.length by rw [h.1]; exact hlt)]
   have e2:(ll ++ [l]).getD i []=ll.getD i []:=by simp [List.getD_eq_getElem?_getD,List.getElem?_append_left hlt]
   rw [e1,e2]; exact h.2 i hlt
 . have he:i=ll.length:=by simp at hi; omega
   subst he;have e1:(vs ++ [v]).getD ll.length undef=v:=by rw [<- h.1]; simp
   have e2:(ll ++ [l]).getD ll.length []=l:=by simp
   rw [e1,e2]; exact hv.weaken (Nat.zero_le _)
end
theorem Q9f.J0f {w:World} {T:TypeId} {vs:List Value} {ll:List (List Bool)} (h:Q9f w T .bool vs ll) (hl:∀ i,i < ll.length -> (ll.getD i []).length <= 17592186043904):Q9k w vs ll:=⟨h.1,fun i hi=>(h.2 i hi).bools (hl i hi)⟩
end Go.Tw
namespace Go.Proofs
open Go.RowKit Go.Tw Go.Flow
theorem Tryz.Z9n:(Tryz.prog.info? 5).map (fun i=>(i.zero,i.size,i.bytes))=some (some (.int .u8 0),1,1):=by kernel_rfl
theorem Z3a (W:World) (x:Int) (h:0 <= x /\ x <= 9) :
    Calls Tryz.prog 165 #[.int .i64 x] W fun e W'=>e=.returned (.int .u8 x) /\ W=W':=by
 have hc:(convert 3 5 (.int .i64 x)).run Tryz.prog W=.ok (.int .u8 x) W:=by
  have hw:IntKind.u8.wrap x=x:=by simp [IntKind.wrap,IntKind.bits,IntKind.signed]; omega
  have h1:Tryz.prog.underlying 3=some (.int .i64):=by kernel_rfl
  have h2:Tryz.prog.underlying 5=some (.int .u8):=by kernel_rfl
  simp [convert,run_underlying h1,run_underlying h2,Conv.intToInt,hw]
 go_enter Tryz.func165,Tryz.ntmps165;go_wp2;go_ret;exact ⟨rfl,rfl⟩
theorem Z5o (l:List Int) {k:Nat} (hk:k < l.length):l.take k ++ [ix l k]=l.take (k + 1):=by
 rw [List.take_succ_eq_append_getElem hk,Q4s hk]
theorem X6m (w:World) (v:Value) (l:List Int) (hv:Q0d w v l) (hle:l.length <= 4096) (hd:Digits l) :
    Calls Tryz.prog 164 #[v,.func (.func 165) #[] #[]] w fun e w'=>∃ x,e=.returned x /\ Q0q w' w.heap.size 5 (.int .u8) x l /\ Ext w w':=by
 obtain ⟨i0,hi,hz0,hz1,hz2⟩:=info_parts Tryz.Z9n;obtain ⟨A,cap,rfl,hl,hcap,hc⟩:=hv.opened;have HC:=hid hc;have HD:=hid hd;clear hv hc hd;go_enter Tryz.func164,Tryz.ntmps164;go_wp2
 go_loopw [5,10] (fun o i wr=>∃ (k:Nat),k <= l.length /\ i=.int .i64 k /\ Q0q wr w.heap.size 5 (.int .u8) o (l.take k) /\ Ext w wr) (fun _ i _=>l.length - (intOf i).toNat)
 case atStart=>exact ⟨0,Nat.zero_le _,rfl,Q0q.nil _ _ _ _,Ext.refl _⟩
 case round =>
  obtain ⟨k,hk,rfl,hown,hx⟩:=hrel;have hlen:(l.take k).length=k:=by rw [List.length_take]; omega
  by_cases hlt:k < l.length
  . obtain ⟨b,off,rfl,hcell⟩:=HC.out k hlt
    have HTK:=hid (Z5o l hlt);have hdk:=HD.out (ix l k) (by rw [Q4s hlt]; exact List.getElem_mem hlt)
    obtain ⟨s,hs⟩:∃ s,ix l k=s:=⟨_,rfl⟩;rw [hs] at hcell HTK hdk;have HFS:=hid (Z3a wr s hdk);replace hcell:=hx.cell hcell;have hll:(l.take k).length <= 4096:=by omega
    clear hs hlen hdk;go_wp2_with (first | (refine HFS.out.mono ?_; rintro e w9 ⟨rfl,rfl⟩) | (at_builtin; refine wpList_append_own _ rfl _ _ 212 rfl (w.heap.size) 5 i0 (.int .u8 0) 1 1 Tryz.underlying212 hi hz0 hz1 hz2 rfl (by decide) _ _ _ rfl (World.ownsRow.alloc hown _) ⟨wr.heap.size,0,none⟩ 1 1 [.int .u8 s] rfl rfl ?_ ?_ ?_ ?_ ?_ ?_; exact Q4p _ _ _; (focus (simp [Value.oneCell'])); (focus (unfold maxLen; omega)); (focus omega); (focus (have:=hx.size; simp at this ⊢; omega)); intro v' w1 hown' hgrow _))
    have hx':=Q2w hx hown (Nat.le_refl _) hgrow;go_wp2;go_roundw
    case rel=>exact ⟨k + 1,by omega,by go_num,by rw [<- HTK.out]; exact Q0q.snoc hown',hx'⟩
    case measure=>simp [intOf]; omega
  . have HE:Hid (l.take k=l):=hid (List.take_of_length_le (by omega))
    rw [HE.out] at hown;have HOWN:=hid hown;clear hown hlen;go_wp2;go_ret;exact ⟨_,rfl,HOWN.out,hx⟩
theorem Y0r (w:World) {base:Nat} {u:Value} {l:List Int} (hu:Q0q w base 5 (.int .u8) u l) :
    (convert 212 9 u).run Tryz.prog w=.ok (.string (Q5x l)) w:=by
 have h1:Tryz.prog.underlying 212=some (.slice 5):=by kernel_rfl
 have h2:Tryz.prog.underlying 5=some (.int .u8):=by kernel_rfl
 have h3:Tryz.prog.underlying 9=some .string:=by kernel_rfl
 rcases hu.cells2 with ⟨rfl,rfl⟩ | ⟨g,c,rfl,-,-,-,hcell⟩
 . rw [run_convert_bytes_nil w _ _ h1 h2 0 0 _ h3]; rfl
 . rw [run_convert_bytes_arg w _ _ h1 h2 g 0 l.length c l rfl (fun i hi=>by rw [hcell i hi]; simp [hi]) _ h3]; rfl
theorem Y0f (w:World) (v:Value) (l:List Int) (hv:Q0d w v l) (hle:l.length <= 4096) (hd:Digits l) :
    Calls Tryz.prog 102 #[v] w fun e w'=>e=.returned (.string (Q5x l)) /\ Ext w w':=by
 have HM:=hid (X6m w v l hv hle hd);obtain ⟨A,cap,rfl,-,-,-⟩:=hv.opened;clear hv hd;go_enter Tryz.func102,Tryz.ntmps102;go_wp2_with fail;refine HM.out.mono ?_;rintro e w5 ⟨u,rfl,hu,hx5⟩;have hcv:=Y0r w5 hu;have HX:=hid hx5;clear hu hx5;go_wp2;go_ret;exact ⟨rfl,HX.out⟩
end Go.Proofs
namespace Go.Proofs
open Go.RowKit Go.Tw Go.Flow
attribute [local go_sem] Oper.semAt_some
theorem X6b {w:World} {A:Option Addr} {n cap:Nat} {l:List Int} (h:Q0d w (.slice A n cap) l) {k:Nat} (hk:k <= l.length):Q0d w (.slice A k cap) (l.take k):=by
 obtain ⟨c,⟨A',cap',hv,hn,hcap,hc⟩,h2⟩:=h;injection hv with e1 e2 e3;subst e1 e2 e3;have hlk:(l.take k).length=k:=by rw [List.length_take]; omega
 refine ⟨c,⟨A,cap,by rw [hlk],by omega,by omega,fun j hj=>hc j (by omega)⟩,fun j hj=>?_⟩
 rw [List.getElem_take];exact h2 j (by omega)
theorem Tryz.Y8e:(Tryz.prog.info? 4).map (fun i=>(i.zero,i.size,i.bytes))=some (some (.bool false),1,1):=by kernel_rfl
end Go.Proofs
namespace Go.Proofs
open Go.RowKit Go.Tw Go.Flow
theorem Y9g (h:List Int) (row:List (List Int)):(Q9j h row).length <= row.length + 1:=by
 unfold Q9j;have hb:=(posB h row row.length).1;dsimp only
 split
 . omega
 . rw [List.length_append,List.length_append,List.length_take,List.length_drop,List.length_singleton]
   omega
theorem Y1k (s:Q0b) (t:Nat):∀ i,(s.X0s t i).length <= i
 | 0=>by simp [Q0b.X0s]
 | i + 1=>by
   have:=Y1k s t i;have:=Y9g ((Q0c s.members i).take (t + 1)) (s.X0s t i);unfold Q0b.X0s;omega
theorem X7m (s:Q0b):∀ n,(s.Q7i n).length <= n * s.members.length
 | 0=>by simp [Q0b.Q7i]
 | n + 1=>by
   have:=X7m s n;have:=Y1k s n s.members.length;unfold Q0b.Q7i;rw [List.length_append,Nat.add_mul,Nat.one_mul];omega
theorem Z5n {s:Q0b} (hS:Q1b s):s.hist.length <= 48:=by
 have:=X7m s s.ships.length;have h2:s.ships.length * s.members.length <= 6 * 8:=Nat.mul_le_mul hS.tides.2 hS.some.2;unfold Q0b.hist;omega
theorem Tryz.Z9i (w:World):(isAgg 47).run Tryz.prog w=.ok true w:=by kernel_rfl
theorem Tryz.Z7k (w:World):(sizeOf 47).run Tryz.prog w=.ok 1 w:=by kernel_rfl
theorem X3l (w:World) (a b:Option Addr) (n c m d:Nat):(Instr.build 99 #[(0,.slice a n c),(1,.slice b m d)]).run Tryz.prog w=.ok (.agg #[.slice a n c,.slice b m d]) w:=by kernel_rfl
attribute [local go_sem ↓] X3l
end Go.Proofs
