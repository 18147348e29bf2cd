/- Contracts: slices.Max, mapped over plans to numbers, Most. Contracts: slices.Index and Contains over strings, the function that Best lays over the histories, mapped over histories to rules. Contract: mapped over histories to rules, by the function that Best lays over them. -/
import Derived.Test.YthnobngcipaljaaGreatDoorPp25
set_option maxRecDepth 1000000
set_option maxHeartbeats 64000000
set_option linter.unusedVariables false
set_option linter.unusedSimpArgs false
set_option linter.constructorNameAsVariable false
open Go.Lib (hid)
namespace Go.Tw
open Go.RowKit Go.Flow
def maxL (l:List Int):Int:=l.tail.foldl max (l.headD 0)
def X9o (l:List Int) (k:Nat):Int:=((l.take k).tail).foldl max (l.headD 0)
theorem Z1o (l:List Int) (h:0 < l.length):X9o l 1=ix l 0:=by
 cases l with
 | nil=>simp at h
 | cons x l=>simp [X9o,ix]
theorem Z0d (l:List Int) (k:Nat) (h0:0 < k) (hk:k < l.length):X9o l (k + 1)=max (X9o l k) (ix l k):=by
 unfold X9o;rw [List.take_succ_eq_append_getElem hk,Q4s hk];have h1:(l.take k) ≠ []:=by intro h; have:=congrArg List.length h; rw [List.length_take,List.length_nil] at this; omega
 rw [List.tail_append_of_ne_nil h1,List.foldl_append]; rfl
theorem Z2b (l:List Int):X9o l l.length=maxL l:=by unfold X9o maxL; rw [List.take_length]
theorem X0c {α:Type} (f:α -> Int):∀ (l:List α) (m:Int),l.foldl (fun m x=>max m (f x)) m=(l.map f).foldl max m
 | [],_=>rfl
 | x :: l,m=>by simp only [List.foldl_cons,List.map_cons]; exact X0c f l _
theorem Z4u {s:Q0b} (hn:Q2j s ≠ []) (h0:∀ x ∈ Q2j s,0 <= x.weight):maxL ((Q2j s).map Plan.weight)=Z5c s:=by
 unfold Z5c maxL;rw [X0c Plan.weight];cases hp:Q2j s with
 | nil=>exact absurd hp hn
 | cons x l =>
   simp only [List.map_cons,List.tail_cons,List.headD_cons,List.foldl_cons];have hx:=h0 x (by rw [hp]; exact List.mem_cons_self)
   rw [show max (0:Int) x.weight=x.weight by omega]
def Z5e (s:Q0b):Int:=if s.err=0 then Z5c s else 0
end Go.Tw
namespace Go.Proofs
open Go.RowKit Go.Tw Go.Flow
attribute [local go_sem] Oper.semAt_some
theorem Z5q (w:World) (v:Value) (l:List Int) (hv:Q0d w v l) (h0:0 < l.length) (hl9:l.length <= 100000) :
    Calls Tryz.prog 92 #[v] w fun e w'=>e=.returned (.int .i64 (maxL l)) /\ w'=w:=by
 obtain ⟨A,cap,rfl,hl,hcap,hc⟩:=hv.opened;have HC:=hid hc;obtain ⟨b,off,rfl,h00⟩:=hc 0 h0;rw [Nat.add_zero] at h00;have h0I:(0:Int) < l.length:=by omega
 have h1I:¬ (l.length:Int) < 1:=by omega
 have HM1:=hid (Z1o l h0);have HMA:=hid (Z2b l);clear hv hc;obtain ⟨y,hy⟩:∃ z,ix l 0=z:=⟨_,rfl⟩;rw [hy] at h00 HM1;clear hy;go_enter Tryz.func92,Tryz.ntmps92;go_wp2
 go_loopw [3,4] (fun m i wr=>∃ (k:Nat),0 < k /\ k <= l.length /\ i=.int .i64 k /\ m=.int .i64 (X9o l k) /\ wr=w) (fun _ i _=>l.length - (intOf i).toNat)
 case atStart=>exact ⟨1,by omega,h0,rfl,by rw [HM1.out],rfl⟩
 case round =>
  obtain ⟨k,hk0,hk,rfl,rfl,rfl⟩:=hrel
  by_cases hlt:k < l.length
  . obtain ⟨_,_,he,hcell⟩:=HC.out k hlt
    cases he;have hkI:(k:Int) < l.length:=by omega
    have hwk:IntKind.i64.wrap ((k:Int) + 1)=(k:Int) + 1:=Q2v _ (by omega) (by omega)
    have HS:=hid (Z0d l k hk0 hlt);obtain ⟨z,hz⟩:∃ z,ix l k=z:=⟨_,rfl⟩;rw [hz] at hcell HS;obtain ⟨m,hm⟩:∃ m,X9o l k=m:=⟨_,rfl⟩;rw [hm] at HS ⊢;clear hz hm;go_wp2;go_roundw
    case rel=>exact ⟨k + 1,by omega,by omega,by go_num,by rw [HS.out],trivial⟩
    case measure=>simp [intOf]; omega
  . have hke:k=l.length:=by omega
    subst hke;go_wp2;go_ret;exact ⟨by rw [HMA.out]; rfl,rfl⟩
theorem Z3t (w:World) (a b c:Int) (v:Value) (A:Option Addr) (n cp:Nat) (hv:v=.slice A n cp) :
    Calls Tryz.prog 95 #[.agg #[.int .i64 a,.int .i64 b,.int .i64 c,v]] w fun e w'=>e=.returned (.int .i64 a) /\ Ext w w':=by
 subst hv;have hbox:=Ext.box w (.cells #[.int .i64 a,.int .i64 b,.int .i64 c,.slice A n cp] 159);have K3:=Blk.made w 159 #[.int .i64 a,.int .i64 b,.int .i64 c,.slice A n cp];have d0:=(K3).cell 0;have d1:=(K3).cell 1;have d2:=(K3).cell 2;have d3:=(K3).cell 3;simp only [Go.Tw.gA,Go.Tw.gB,Go.Tw.gC] at d0 d1 d2 d3;clear K3;go_enter Tryz.func95,Tryz.ntmps95;go_wp2;go_ret;exact ⟨rfl,hbox⟩
theorem X6n (w:World) (B:Nat) (v:Value) (ps:List PV) (hv:Q0z w B 159 4 Q2f v ps) (hcr:Q0j w ps) (hl:ps.length <= 80000) :
    Calls Tryz.prog 93 #[v,.func (.func 95) #[] #[]] w fun e w'=>∃ x,e=.returned x /\ Q0q w' w.heap.size 3 (.int .i64) x ((ps.map (·.1)).map Plan.weight) /\ Ext w w':=by
 obtain ⟨i0,hi,hz0,hz1,hz2⟩:=info_parts Tryz.info3;have HCA:=hid hcr;obtain ⟨A,cv,hsh,HCELL⟩:=Q6o hv;subst hsh;obtain ⟨L,hL⟩:∃ L,ps.length=L:=⟨_,rfl⟩;have HL:=hid hL;rw [hL] at hl ⊢;obtain ⟨ws,hws⟩:∃ z,(ps.map (·.1)).map Plan.weight=z:=⟨_,rfl⟩;have HWS:=hid hws;have HWL:Hid (ws.length=L):=hid (by rw [<- hws,List.length_map,List.length_map]; exact hL)
 rw [hws];clear hv hcr hL hws;go_enter Tryz.func93,Tryz.ntmps93;go_wp2
 go_loopw [5,10] (fun o i wr=>∃ (k:Nat),k <= L /\ i=.int .i64 k /\ Q0q wr w.heap.size 3 (.int .i64) o (ws.take k) /\ Ext w wr) (fun _ i _=>L - (intOf i).toNat)
 case atStart=>exact ⟨0,Nat.zero_le _,rfl,Q0q.nil _ _ _ _,Ext.refl _⟩
 case round =>
  obtain ⟨k,hk,rfl,hown,hx⟩:=hrel;have HX:=hid hx;have HOW:=hid hown
  by_cases hlt:k < L
  . have hkp:k < ps.length:=by rw [HL.out]; exact hlt
    have hkI:(k:Int) < L:=by omega
    obtain ⟨gb,rfl,hcell⟩:=HCELL.out k hkp;have e0:=hx.cell (hcell 0 (by omega))
    have e1:=hx.cell (hcell 1 (by omega))
    have e2:=hx.cell (hcell 2 (by omega))
    have e3:=hx.cell (hcell 3 (by omega))
    obtain ⟨A4,n4,c4,hsl⟩:=HCA.out.shape (List.getElem_mem hkp);have HST:Hid (ws.take (k + 1)=ws.take k ++ [ps[k].1.weight]):=hid (by
     rw [List.take_succ_eq_append_getElem (by rw [HWL.out]; exact hlt)]
     congr 2
     simp only [<- HWS.out,List.getElem_map])
    obtain ⟨qk,hqke⟩:∃ z,ps[k]=z:=⟨_,rfl⟩;rw [hqke] at e0 e1 e2 e3 hsl HST;obtain ⟨x,xv⟩:=qk;replace hsl:xv=.slice A4 n4 c4:=hsl;subst hsl;rw [Nat.add_zero] at e0;obtain ⟨x1,hx1⟩:∃ z,x.weight=z:=⟨_,rfl⟩;obtain ⟨x2,hx2⟩:∃ z,x.closings=z:=⟨_,rfl⟩;obtain ⟨x3,hx3⟩:∃ z,x.delay=z:=⟨_,rfl⟩;replace HST:Hid (ws.take (k + 1)=ws.take k ++ [x1]):=hid (by rw [HST.out,<- hx1])
    replace e0:wr.cell? ⟨gb,k * 4,none⟩=some (.int .i64 x1):=by rw [<- hx1]; exact e0
    replace e1:wr.cell? ⟨gb,k * 4 + 1,none⟩=some (.int .i64 x2):=by rw [<- hx2]; exact e1
    replace e2:wr.cell? ⟨gb,k * 4 + 2,none⟩=some (.int .i64 x3):=by rw [<- hx3]; exact e2
    replace e3:wr.cell? ⟨gb,k * 4 + 3,none⟩=some (.slice A4 n4 c4):=e3;have hbox:=Ext.box wr (.cells #[.int .i64 x1,.int .i64 x2,.int .i64 x3,.slice A4 n4 c4] 159);have K3:=Blk.made wr 159 #[.int .i64 x1,.int .i64 x2,.int .i64 x3,.slice A4 n4 c4];have d0:=(K3).cell 0;have d1:=(K3).cell 1;have d2:=(K3).cell 2;have d3:=(K3).cell 3;simp only [Go.Tw.gA,Go.Tw.gB,Go.Tw.gC] at d0 d1 d2 d3;have HXB:=hid hbox;have hll:(ws.take k).length <= 80000:=by rw [List.length_take]; omega
    clear hcell hqke hx1 hx2 hx3 hbox K3 hown hx hkp
    go_light
    go_wp2_with (first | (refine (Z3t _ _ _ _ _ A4 n4 c4 rfl).mono ?_; rintro e w5 ⟨rfl,hx5⟩; have hown:=HOW.out.below (HXB.out.trans hx5); have hx6:=HX.out.trans (HXB.out.trans hx5)) | (at_builtin; refine wpList_append_own _ rfl _ _ 22 rfl (w.heap.size) 3 i0 (.int .i64 0) 1 8 Tryz.underlying22 hi hz0 hz1 hz2 rfl (by decide) _ _ _ rfl (World.ownsRow.alloc hown _) ⟨w5.heap.size,0,none⟩ 1 1 [.int .i64 x1] rfl rfl ?_ ?_ ?_ ?_ ?_ ?_; exact Q4p _ _ _; (focus (simp [Value.oneCell'])); (focus (unfold maxLen; omega)); (focus omega); (focus (have:=hx6.size; simp at this ⊢; omega)); intro v' w1 hown' hgrow _))
    have hx':=Q2w hx6 hown (Nat.le_refl _) hgrow;go_wp2;go_roundw
    case rel=>exact ⟨k + 1,by omega,by go_num,by rw [HST.out]; exact Q0q.snoc hown',hx'⟩
    case measure=>simp [intOf]; omega
  . have hke:k=L:=by omega
    subst hke;have HE:Hid (ws.take k=ws):=hid (List.take_of_length_le (by rw [HWL.out]; omega))
    rw [HE.out] at HOW;clear hown hx;go_wp2;go_ret;exact ⟨_,rfl,HOW.out,HX.out⟩
theorem Z1m (w:World) (v:Value) (s:Q0b) (hv:Q0h w v s) (hs:Q3k s) (hF:s.hist.length <= 9) :
    Calls Tryz.prog 19 #[v] w fun e w'=>e=.returned (.tuple #[.int .i64 (Z5e s),.int .i64 s.err]) /\ Ext w w':=by
 obtain ⟨a,b,rfl,h2⟩:=hv;obtain ⟨A,capa,rfl,-,-,-⟩:=h2.ships.opened;obtain ⟨B,capb,rfl,-,-,-⟩:=h2.members.opened;have H2:=hid h2;have HS:=hid hs;have HFE:=hid hF;clear h2 hs hF;go_enter Tryz.func19,Tryz.ntmps19;go_wp2_with fail;change Calls _ _ _ (w.alloc (.cells #[.int .i64 s.limit,.slice A s.ships.length capa,.slice B s.members.length capb] 34)) _;obtain ⟨W,hWW,k0,HXW,eW⟩:=Q1t w 34 #[.int .i64 s.limit,.slice A s.ships.length capa,.slice B s.members.length capb];rw [hWW];clear hWW;have K0:=hid k0;clear k0;refine (Q1u _ _ s ⟨_,_,rfl,H2.out.ext HXW.out⟩ HS.out).mono ?_;rintro e w5 ⟨rfl,hx5⟩;have HX5:=hid (HXW.out.trans hx5);have HK0:=hid (K0.out.ext hx5)
 by_cases he:s.err=0
 . have hV:=Q1b.of he
   have HPL:=hid (Y3y w5 _ s ⟨_,_,rfl,H2.out.ext HX5.out⟩ hV HFE.out);have hbd:=Q6b hV s.ships.length (Nat.le_refl _) (X9l s) Q6q Q8n;have hpe:Q1w s s.ships.length (X9l s)=Q2j s:=rfl;rw [hpe] at hbd;have hple:(Q2j s).length <= 512:=by
    have h1:2 ^ X2m s (s.ships.length - s.ships.length) (X9l s) <= 2 ^ 9:=Nat.pow_le_pow_right (by omega) (Nat.le_trans (X5i _ _) HFE.out)
    omega
   have hpn:Q2j s ≠ []:=fun hp=>by
    obtain ⟨o,ho,_⟩:=Y5s hV.toFine (fun _=>false)
    rw [hp] at ho; simp at ho
   have HMX:=hid (Z4u hpn fun x hx=>(hbd.2 x hx).w.1);have HPE:=hid hple;have HPN:Hid (0 < (Q2j s).length):=hid (List.length_pos_iff.2 hpn);have HF:Hid (Z5e s=Z5c s):=hid (if_pos he);have hne:(s.err != 0)=false:=by simp [he]
   obtain ⟨E,hE⟩:∃ E,s.err=E:=⟨_,rfl⟩;have HE0:=hid (hE.symm.trans he);have c0:=(HK0.out).cell 0;have c1:=(HK0.out).cell 1;have c2:=(HK0.out).cell 2;simp only [Go.Tw.gA,Go.Tw.gB,Go.Tw.gC] at c0 c1 c2;rw [hE] at hne ⊢;rw [HE0.out];have HER:=hid he;clear he hE hx5 hV hbd hpe hple hpn;go_wp2_with (go_at_call 94; refine HPL.out.mono ?_; rintro e w6 ⟨x6,qs6,rfl,h1,h2,h3,h4⟩; refine halted ?_);have HX6:=hid h4;have HM6:=hid h3;have HLQ:Hid (qs6.length=(Q2j s).length):=hid (by rw [<- h3,List.length_map])
   have HMP:=hid (X6n w6 _ x6 qs6 h1 h2 (by rw [HLQ.out]; have:=HPE.out; omega))
   clear h1 h2 h3 h4;unfold Q1i;go_wp2_with (go_at_call 93; refine HMP.out.mono ?_; rintro e w7 ⟨x7,rfl,h1,h2⟩; refine halted ?_);have HX7:=hid h2;have HI:=hid (Z5q w7 x7 _ (h1.ints (by rw [List.length_map,List.length_map,HLQ.out]; have:=HPE.out; omega)) (by rw [List.length_map,List.length_map,HLQ.out]; exact HPN.out) (by rw [List.length_map,List.length_map,HLQ.out]; have:=HPE.out; omega))
   rw [HM6.out,HMX.out] at HI;clear h1 h2;unfold Q1i;go_wp2_with (go_at_call 92; refine HI.out.mono ?_; rintro e w8 ⟨rfl,rfl⟩; refine halted ?_);unfold Q1i;go_wp2;go_ret2;exact ⟨by rw [HF.out,HER.out]; rfl,HX5.out.trans (HX6.out.trans HX7.out)⟩
 . have HF:Hid (Z5e s=0):=hid (if_neg he)
   have hne:(s.err != 0)=true:=by simp [he]
   obtain ⟨E,hE⟩:∃ E,s.err=E:=⟨_,rfl⟩;have HPE:=hid hE;rw [hE] at hne ⊢;clear he hE hx5;go_wp2;go_ret2;exact ⟨by rw [HF.out,HPE.out]; rfl,HX5.out⟩
end Go.Proofs
namespace Go.Tw
open Go.RowKit Go.Flow
def anyS (l:List ByteArray) (s:ByteArray):Bool:=l.any fun x=>s == x
theorem X9r (l:List ByteArray) (s:ByteArray):l.contains s=anyS l s:=List.contains_eq_any_beq
theorem Z1l {l:List ByteArray} {k:Nat} (h:k < l.length) (s:ByteArray):anyS (l.drop k) s=(s == l[k] || anyS (l.drop (k + 1)) s):=by
 rw [List.drop_eq_getElem_cons h]; rfl
def Y6k (q:Value × Bool):List Value:=[q.1,.bool q.2]
theorem Y1d (q:Value × Bool):(Y6k q).length=2:=rfl
end Go.Tw
namespace Go.Proofs
open Go.RowKit Go.Tw Go.Flow
attribute [local go_sem] Oper.semAt_some
theorem Y3b (w:World) (B:Nat) (v:Value) (l:List ByteArray) (s:ByteArray) (hv:Q0q w B 9 .string v l) (hl9:l.length <= 100000) :
    Calls Tryz.prog 163 #[v,.string s] w fun e w'=>∃ r:Int,e=.returned (.int .i64 r) /\ decide (0 <= r)=anyS l s /\ w=w':=by
 obtain ⟨A,cap,rfl,hcap,hc⟩:=hv.cells;clear hv;go_enter Tryz.func163,Tryz.ntmps163;go_wp2
 go_loop [8] (fun i=>∃ k:Nat,k <= l.length /\ i=.int .i64 k /\ anyS (l.drop k) s=anyS l s) (fun i=>l.length - (intOf i).toNat)
 case atStart=>exact ⟨0,Nat.zero_le _,rfl,rfl⟩
 case round =>
  obtain ⟨k,hk,rfl,hr⟩:=hrel;have HR:=hid hr; clear hr
  by_cases hlt:k < l.length
  . obtain ⟨b,rfl,-,-,hcell⟩:=hc k hlt
    rw [Nat.zero_add] at hcell;have HD:=hid (Z1l hlt s);have hkI:(k:Int) < l.length:=by omega
    obtain ⟨y,hy⟩:∃ y,l[k]=y:=⟨_,rfl⟩;rw [hy] at hcell HD;clear hc hy
    by_cases hx:s=y
    . have HX:=hid (str_eq hx)
      have hx1:=toList_eq rfl hx;clear hx;go_wp2;go_ret;exact ⟨k,rfl,by rw [<- HR.out,HD.out,HX.out,Bool.true_or]; simp,rfl⟩
    . have HX:=hid (X1c hx)
      have hx1:=Z4b rfl hx;clear hx;go_wp2;go_round
      case rel=>exact ⟨k + 1,by omega,by go_num,by rw [<- HR.out,HD.out,HX.out,Bool.false_or]⟩
      case measure=>simp [intOf]; omega
  . clear hc
    go_wp2;go_ret;exact ⟨-1,rfl,by rw [<- HR.out,List.drop_eq_nil_of_le (by omega)]; rfl,rfl⟩
theorem X4f (w:World) (B:Nat) (v:Value) (l:List ByteArray) (s:ByteArray) (hv:Q0q w B 9 .string v l) (hl9:l.length <= 100000) :
    Calls Tryz.prog 101 #[v,.string s] w fun e w'=>e=.returned (.bool (l.contains s)) /\ w=w':=by
 rw [X9r];have HI:=hid (Y3b w B v l s hv hl9);obtain ⟨A,cap,rfl,hcap,hc⟩:=hv.cells;clear hv hc;go_enter Tryz.func101,Tryz.ntmps101;go_wp2_with (go_at_call 163; refine HI.out.mono ?_; rintro e w' ⟨r,rfl,hr,rfl⟩; have HR:=hid hr; clear hr);go_ret;exact ⟨by rw [<- HR.out]; rfl,rfl⟩
theorem Tryz.J1r (w:World):(isAgg 167).run Tryz.prog w=.ok true w:=by kernel_rfl
theorem Tryz.Z6u (w:World):(sizeOf 167).run Tryz.prog w=.ok 2 w:=by kernel_rfl
theorem Tryz.J0m:(Tryz.prog.info? 167).map (fun i=>(i.zero,i.size,i.bytes))=some (some (.agg #[.slice none 0 0,.bool false]),2,32):=by kernel_rfl
theorem Z1z {A:Option Addr} {n c:Nat} {b:Bool}:∀ u ∈ (#[Value.slice A n c,.bool b]:Array Value).toList,u.oneCell'=true:=by
 intro u hu;simp only [List.mem_cons,List.not_mem_nil,or_false] at hu
 rcases hu with rfl | rfl <;> rfl
theorem Z2q (w:World) (h:List Int) (X:Option Addr) (n c g:Nat) (v:Value) (cl:List ByteArray) (hv:Q0d w (.slice X n c) h) (hd:Digits h) (hl:h.length <= 4096) (hg:w.cell? ⟨g,3,none⟩=some v) (ho:Q0q w 0 9 .string v cl) (hcl:cl.length <= 100000) :
    Calls Tryz.prog 100 #[.slice X n c,.pointer (some ⟨g,0,none⟩)] w fun e w'=>e=.returned (.agg #[.slice X n c,.bool (cl.contains (Q5x h))]) /\ Ext w w':=by
 have HK:=hid (fun (W:World) (hW:Ext w W)=>Y0f W _ h (hv.ext hW) hl hd);have HC:=hid (fun (W:World) (hW:Ext w W)=>X4f W 0 v cl (Q5x h) (ho.below hW) hcl);have HG:=hid hg;obtain ⟨Av,cv,hav,-⟩:=ho.shape;subst hav;obtain ⟨q,hq⟩:∃ q,cl.contains (Q5x h)=q:=⟨_,rfl⟩;rw [hq] at HC ⊢;obtain ⟨kh,hkh⟩:∃ k,Q5x h=k:=⟨_,rfl⟩;rw [hkh] at HK HC;clear hv hd hg ho hq hkh;go_enter Tryz.func100,Tryz.ntmps100;go_wp2_with fail;change Code.wp _ _ _ _ (w.alloc (.cells #[.slice none 0 0,.bool false] 167));obtain ⟨W,hWW,k0,HXW,eW⟩:=Q1t w 167 #[.slice none 0 0,.bool false];rw [hWW];clear hWW;have K0:=hid k0;obtain ⟨gp,hgp⟩:∃ z,w.heap.size=z:=⟨_,rfl⟩;have HGP:=hid hgp;rw [hgp] at K0 eW ⊢;clear k0 hgp;have hdr:=(Ext.refl W).drew;refine Flow.Q4m [.p,.p,.w,.p,.w,.w,.p,.last] [0,1,2,3,4,5,6,7] [[],[],[1],[],[3],[1,2,3,4],[0,1,2,3,4,5],[0,1,2,3,4,5,6]] [7]
  [.c 0 (.slice X n c),.c 1 (.pointer (some ⟨g,3,none⟩)),.c 2 (.slice Av cl.length cv),.c 3 (.slice X n c),.c 4 (.string kh),.c 5 (.bool q),.c 6 (.agg #[.slice X n c,.bool q]),.none]
  [fun v w1 w'=>Blk w' gp 167 #[.slice X n c,.bool q] /\ (∀ n,n <= gp -> Below n w1 w')] (by kernel_rfl) rfl (by kernel_rfl) ⟨?g0,?g1,?g2,?g3,?g4,?g5,?g6,?g7,trivial⟩ ?post
 case g0 | g1 | g3=>
  intro v w1 hx;intro bb hbb;subst hbb;refine ⟨_,fun w=>?_,rfl⟩;go_simp
 case g2=>
  intro v w1 hx;(repeat intro (zq:v _=_));intro bb hbb;subst hbb;have n0:w1.cell? ⟨g,3,none⟩=some (.slice Av cl.length cv):=(HXW.out.trans (hdr.trans hx)).cell HG.out;intro K hK;go_simp;exact hK _ _ (Ext.refl _) rfl
 case g4=>
  intro v w1 hx;(repeat intro (zq:v _=_));intro bb hbb;subst hbb;intro K hK;go_simp;refine Q0e (HK.out w1 (HXW.out.trans (hdr.trans hx))) ?_;rintro e w2 ⟨rfl,hx2⟩;exact ⟨_,rfl,hK _ _ hx2 rfl⟩
 case g5=>
  intro v w1 hx;(repeat intro (zq:v _=_));intro bb hbb;subst hbb;intro K hK;go_simp;refine Q0e (HC.out w1 (HXW.out.trans (hdr.trans hx))) ?_;rintro e w2 ⟨rfl,rfl⟩;exact ⟨_,rfl,hK _ _ (Ext.refl _) rfl⟩
 case g6=>
  intro v w1 hx;(repeat intro (zq:v _=_));intro bb hbb;subst hbb;refine ⟨_,fun w=>?_,rfl⟩;go_simp
 case g7=>
  intro v w1 hx;(repeat intro (zq:v _=_));intro wl hT;obtain rfl:wl=w1:=hT;intro bb hbb;intro K hK;have o1:bb.eval (.tmp 3)=.pointer (some ⟨gp,0,none⟩):=by rw [hbb]; dsimp only; (try simp (discharger:=decide) only [eval_put_ne]); rfl
  have o2:bb.eval (.tmp 10)=.agg #[.slice X n c,.bool q]:=by rw [hbb]; dsimp only; (try simp (discharger:=decide) only [eval_put_ne]); rw [Q0a (by simp only [size_put]; exact (by decide:10 < 11))]; assumption
  exact Q2b (.tmp 3) (.tmp 10) _ rfl Tryz.Z6u o1 o2 (K0.out.ext (hdr.trans hx)) rfl rfl Z1z (fun vv w' hb hl ho=>hK _ _ ⟨hb,hl⟩)
 case post =>
  intro v w1 hx;(iterate 7 intro (zq:v _=_));intro w2 hE;replace hE:(fun v w1 w'=>Blk w' gp 167 #[.slice X n c,.bool q] /\ (∀ n,n <= gp -> Below n w1 w')) v w1 w2:=hE;simp only [Flow.acts,Act.put];go_simp;obtain ⟨hb9,hl9⟩:=hE;have HX9:Hid (Below w.heap.size W w2):=hid (Below.trans ((hdr.trans hx).mono (by have:=HGP.out; omega)) (hl9 _ (by have:=HGP.out; omega)))
  clear hx hdr hl9;(repeat clear zq);go_wp2;refine bodyPost_ret (Q1v Tryz.results100 rfl hb9 Tryz.J1r Tryz.Z6u) rfl ?_;exact ⟨rfl,Below.trans HXW.out HX9.out⟩
end Go.Proofs
namespace Go.Proofs
open Go.RowKit Go.Tw Go.Flow
attribute [local go_sem] Oper.semAt_some
def Q3s (ll:List (List Int)) (cl:List ByteArray):List Rul:=ll.map fun h=>⟨h,cl.contains (Q5x h)⟩
def Z8u (w:World) (ll:List (List Int)) (cl:List ByteArray) (rs:List (Value × Bool)):Prop:=∀ j (h1:j < rs.length) (h2:j < ll.length),Q0d w rs[j].1 ll[j] /\ rs[j].2=cl.contains (Q5x ll[j])
theorem Z8u.snoc {w:World} {ll:List (List Int)} {cl:List ByteArray} {rs:List (Value × Bool)} {k:Nat} (h:Z8u w ll cl rs) (hk:rs.length=k) {v:Value} {q:Bool} (hlt:k < ll.length) (hv:Q0d w v ll[k]) (hq:cl.contains (Q5x ll[k])=q):Z8u w ll cl (rs ++ [(v,q)]):=fun j h1 h2=>by
 by_cases hj:j < rs.length
 . rw [List.getElem_append_left hj]; exact h j hj h2
 . rw [List.length_append,List.length_singleton] at h1
   have:j=k:=by omega
   subst this;rw [List.getElem_append_right (by omega)]
   simp only [hk,Nat.sub_self,List.getElem_cons_zero];exact ⟨hv,hq.symm⟩
theorem Z4n {w w':World} {B:Nat} {ll:List (List Int)} {cl:List ByteArray} {rs:List (Value × Bool)} {v:Value} (h:Q0z w' B 167 2 Y6k v rs) (hlen:rs.length=ll.length) (hl:ll.length <= 4096) (hr:Z8u w ll cl rs) (hx:Ext w w'):Q3m w' v (Q3s ll cl):=by
 refine Q0z.rowsOf (l:=Q3s ll cl) h (by rw [hlen,Q3s,List.length_map]) (by rw [Q3s,List.length_map]; omega) Y1d (fun j h1 h2=>?_) (fun c c' x hc hh=>?_)
 . have h3:j < ll.length:=by omega
   obtain ⟨a,b⟩:=hr j h1 h3;have e:(Q3s ll cl)[j]=⟨ll[j],cl.contains (Q5x ll[j])⟩:=by simp [Q3s]
   rw [e];refine ⟨a.ext hx,?_⟩;show Value.bool rs[j].2=_;rw [b]
 . obtain ⟨a,b⟩:=hh
   exact ⟨by rw [<- hc 0 (by omega)]; exact a,by rw [<- hc 1 (by omega)]; exact b⟩
theorem X6z (w:World) (v:Value) (ll:List (List Int)) (g:Nat) (pv:Value) (cl:List ByteArray) (hv:Q2z w v ll) (hle:ll.length <= 4096) (hd:∀ h ∈ ll,Digits h) (hh:∀ h ∈ ll,h.length <= 4096) (hg:w.cell? ⟨g,3,none⟩=some pv) (ho:Q0q w 0 9 .string pv cl) (hcl:cl.length <= 100000) :
    Calls Tryz.prog 98 #[v,.func (.func 100) #[] #[.pointer (some ⟨g,0,none⟩)]] w fun e w'=>∃ x,e=.returned x /\ Q3m w' x (Q3s ll cl) /\ Ext w w':=by
 obtain ⟨i0,hi,hz0,hz1,hz2⟩:=info_parts Tryz.J0m;obtain ⟨A,cap,rfl,hl,hcap,hc⟩:=hv.opened;have HC:=hid hc;have HB:=hid (fun (W:World) (h:List Int) (X:Option Addr) n c (hW:Ext w W) (hm:h ∈ ll) (hi:Q0d w (.slice X n c) h)=>Z2q W h X n c g pv cl (hi.ext hW) (hd h hm) (hh h hm) (hW.cell hg) (ho.below hW) hcl);have HFIN:=hid (fun (w':World) (v:Value) (rs:List (Value × Bool)) (h:Q0z w' w.heap.size 167 2 Y6k v rs) (hlen:rs.length=ll.length) (hr:Z8u w ll cl rs) (hx:Ext w w')=>Z4n h hlen hle hr hx);clear hv hc hd hh hg ho hcl;go_enter Tryz.func98,Tryz.ntmps98;go_wp2
 go_loopw [5,10] (fun o i wr=>∃ (k:Nat) (rs:List (Value × Bool)),k <= ll.length /\ i=.int .i64 k /\ rs.length=k /\ Q0z wr w.heap.size 167 2 Y6k o rs /\ Z8u w ll cl rs /\ Ext w wr) (fun _ i _=>ll.length - (intOf i).toNat)
 case atStart=>exact ⟨0,[],Nat.zero_le _,rfl,rfl,Q0z.nil _ _ _ _ _,fun j h1=>by simp at h1,Ext.refl _⟩
 case round =>
  obtain ⟨k,rs,hk,rfl,hrl,hown,hrs,hx⟩:=hrel;have HX:=hid hx;have HOW:=hid hown;have HRS:=hid hrs;have HRL:=hid hrl
  by_cases hlt:k < ll.length
  . obtain ⟨b,off,m,rfl,-,hcell,hm⟩:=HC.out k hlt
    have hge:ll.getD k []=ll[k]:=Q0v _ hlt;rw [hge] at hm;obtain ⟨Am,capm,rfl,-,-,-⟩:=hm.opened;have HCK:=hid (fun (W:World) hW=>HB.out W ll[k] Am _ capm hW (List.getElem_mem hlt) hm);obtain ⟨q,hq⟩:∃ q,cl.contains (Q5x ll[k])=q:=⟨_,rfl⟩;have HR9:=hid (HRS.out.snoc hrl hlt hm hq);rw [hq] at HCK;obtain ⟨n,hn⟩:∃ n,ll[k].length=n:=⟨_,rfl⟩;rw [hn] at HCK HR9 hcell;replace hcell:=hx.cell hcell;have hkI:(k:Int) < ll.length:=by omega
    have HLW:Hid (rs.length + 1 <= 100000):=hid (by omega)
    have HSW:=hid HX.out.size;obtain ⟨Ao,co,hos,-⟩:=hown.shape;subst hos;clear hge hm hq hn hown hrs hx hrl
    go_light
    go_wp2_with (first | (refine (HCK.out _ HX.out).mono ?_; rintro e w5 ⟨rfl,hx5⟩; have HX5:=hid hx5; clear hx5) | (refine Q1z (o:=⟨some 19,_,_,_,_,_⟩) rfl ?_; refine Q2i (.tmp 14) (.tmp 18) 36 rfl w.heap.size 167 i0 (.agg #[.slice none 0 0,.bool false]) 2 32 Tryz.underlying36 hi hz0 hz1 hz2 rfl (by decide) Y6k Y1d _ rs (Value.slice Am n capm,q) rfl (HOW.out.below (HX5.out.trans (Ext.box _ _))) ⟨w5.heap.size,0,none⟩ 1 rfl (Q5g (xs:=Y6k (Value.slice Am n capm,q)) (Blk.made _ _ _)) (by unfold Y6k; simp [Value.oneCell']) HLW.out (by decide) (by have h1:=(HX5.out.trans (Ext.box w5 (.cells #[.slice Am n capm,.bool q] 167))).size; have h2:=HSW.out; omega) ?_; intro v' w9 hown' hgrow))
    have hxx:=HX5.out.trans (Ext.box w5 (.cells #[.slice Am n capm,.bool q] 167));have hO3:=HOW.out.below hxx;have HO9:=hid hown';have HX9:Hid (Ext w w9):=hid (Below.grown (HX.out.trans hxx) hgrow (by have:=hxx.size; have:=HSW.out; omega) (fun b hb=>(hO3.Q8q b hb).1))
    have HL9:Hid ((rs ++ [(Value.slice Am n capm,q)]).length=k + 1):=hid (by rw [List.length_append,HRL.out]; rfl)
    clear hxx hO3 hown' hgrow;go_wp2;go_roundw
    case rel=>exact ⟨k + 1,rs ++ [(Value.slice Am n capm,q)],by omega,by go_num,HL9.out,HO9.out,HR9.out,HX9.out⟩
    case measure=>simp [intOf]; omega
  . have hke:k=ll.length:=by omega
    subst hke;clear hown hrs hx;go_wp2;go_ret;exact ⟨_,rfl,HFIN.out _ _ _ HOW.out HRL.out HRS.out HX.out,HX.out⟩
end Go.Proofs
