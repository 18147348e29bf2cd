/- Small aids for the uses of the region theorem and for boxes. What the functions of chapter 5 come to, in plain lists and numbers: no program is in sight here. Contracts of the reference: before, count, dry. The last operations of a region: the frame under a name, its slots looked up one by one (to reckon the frame out runs away). Plain law: the greatest weight and the best cost over the plans are those over all policies by their codes. A list of lists that a call makes and appends to. Contracts: the function that Always lays over the histories, mapped, Always. Lists of lists whose parts are the call's own. -/
import Derived.Test.YthnobngcipaljaaGreatDoorPo34
import Derived.Test.YthnobngcipaljaaGreatDoorPo36
set_option maxRecDepth 1000000
set_option maxHeartbeats 64000000
set_option linter.unusedVariables false
set_option linter.unusedSimpArgs false
set_option linter.constructorNameAsVariable false
namespace Go.Tw
open Go.RowKit Go.Flow
theorem J4q {α:Type} {P:Program} {K:Value -> World -> Prop} {o:Oper} {a:Act} {w:World} (s x:Operand) (t:TypeId) (ho:o.op = .call { callee:=.builtin .append,args:=#[s,x],argTypes:=#[t,t] })
    (base:Nat) (e:TypeId) (i:TypeInfo) (z:Value) (bytes:Nat) (ht:P.underlying t = some (.slice e)) (hi:P.info? e = some i) (hz:i.zero = some z) (hsize:i.size = 1) (hby:i.bytes = bytes) (hzs:z.cells.size = 1)
    (enc:α -> Value) (v src:Value) (ys:List α) (hs:a.eval s = v) (hv:∃ g,v = .slice (some ⟨g,0,none⟩) 0 0 /\ base <= g /\ w.heap[g]? = some (.cells #[] e (0,0))) (hx:a.eval x = src) (hsrc:Src w enc src ys) (h1:∀ y ∈ ys,(enc y).oneCell' = true)
    (h63:ys.length <= 4398046511104) (hb:bytes <= 32) (hbase:base <= w.heap.size)
    (h:∀ v' w',Q0t w' base e enc v' ys -> Ext w w' -> K v' w'):gives P K ((execOp a.eval o).run P w):=by
 obtain ⟨g,rfl,hbg,hg⟩:=hv;have hown:Q0t w base e enc (.slice (some ⟨g,0,none⟩) 0 0) ([]:List α):=⟨by simp,.inr ⟨g,0,#[],rfl,hbg,hg,Nat.le_refl _,Nat.zero_le _,rfl,by simp⟩⟩
 obtain ⟨A,c,rfl,hc⟩:=hsrc;cases ys with
 | nil =>
   unfold execOp;simp only [ho,resolve,invoke,builtin,Sem.run_bind,Sem.run_pure,Result.andThen_ok,List.map_toArray,List.map_cons,List.map_nil,hs,hx];rw [List.length_nil,Q8t (P:=P) w t o.type e i ht hi _ A 0 0 c (Nat.le_refl _)];exact h _ _ hown (Ext.refl _)
 | cons y ys =>
   obtain ⟨b0,off0,rfl,_⟩:=hc 0 (by simp)
   have hnews:∀ j u,((y :: ys).map enc)[j]? = some u -> w.cell? ((⟨b0,off0,none⟩:Addr).add j) = some u:=fun j u hu=>by
    rw [List.getElem?_map] at hu
    rcases Nat.lt_or_ge j (y :: ys).length with hj | hj
    . rw [List.getElem?_eq_getElem hj] at hu
      simp only [Option.map_some,Option.some.injEq] at hu;obtain ⟨b',off',hA,hcell⟩:=hc j hj;cases hA;rw [<- hu,addr_add]; exact hcell
    . rw [List.getElem?_eq_none hj] at hu; cases hu
   have hbytes:(y :: ys).length * bytes <= 140737488355328:=by
    have:(y :: ys).length * bytes <= 4398046511104 * 32:=Nat.mul_le_mul h63 hb;omega
   obtain ⟨v',w',hr,h2,h3,h4⟩:=run_append_own (P:=P) w base t o.type e i z 1 bytes ht hi hz hsize hby hzs (by decide) _ 0 (([]:List α).map enc) hown ⟨b0,off0,none⟩ (y :: ys).length c ((y :: ys).map enc) (by simp) hnews (fun u hu=>by obtain ⟨y,hy,rfl⟩:=List.mem_map.1 hu; exact h1 y hy) (by unfold maxLen; omega) (by rw [Nat.zero_add]; exact hbytes) hbase
   have hgr:=run_append_grow (P:=P) w t o.type e i z ht hi hz ⟨g,0,none⟩ 0 0 [] (by simp) (by simp) ⟨b0,off0,none⟩ (y :: ys).length c ((y :: ys).map enc) (by rw [hsize]; simp) hnews (by simp) (by simp only [List.length_cons] at h63 ⊢; omega) (by rw [hby]; exact growslice_fits (by simp) (by rw [Nat.zero_add]; exact hbytes))
   rw [hr] at hgr;injection hgr with hv' hw';unfold execOp;simp only [ho,resolve,invoke,builtin,Sem.run_bind,Sem.run_pure,Result.andThen_ok,List.map_toArray,List.map_cons,List.map_nil,hs,hx,hr];refine h v' w' ?_ (by rw [hw']; exact ((Ext.refl w).drew).alloc _)
   unfold Q0t
   simpa using h2
end Go.Tw
namespace Go.Tw
namespace Q0b
end Q0b
namespace Q0b
end Q0b
def always (s:Q0b) (c:Bool):List Rul:=s.hist.map fun h=>⟨h,c⟩
namespace Mem
end Mem
namespace Mem
end Mem
end Go.Tw
namespace Go.Proofs
open Go.RowKit Go.Tw Go.Flow
theorem J7o {a b:List Int} {k:Nat} (ha:k < a.length) (hb:k < b.length):Q6e (a.drop k) (b.drop k) = if ix a k = ix b k then Q6e (a.drop (k + 1)) (b.drop (k + 1)) else decide (ix a k < ix b k):=by
 rw [Q3b ha,Q3b hb]; rfl
theorem J6d (w:World) (u v:Value) (l m:List Int) (hu:Q0d w u l) (hv:Q0d w v m) (hlen:l.length = m.length) :
    Calls Tryz.prog 117 #[u,v] w fun e w'=>e = .returned (.bool (Q6e l m)) /\ Ext w w':=by
 obtain ⟨A,cap,rfl,hl,hcap,hc⟩:=hu.opened;obtain ⟨A',cap',rfl,hl',hcap',hc'⟩:=hv.opened;clear hu hv;have i0:l.length <= m.length:=by omega
 have HLEN:=Lib.hid hlen; clear hlen;go_enter Tryz.func117,Tryz.ntmps117;go_wp2
 go_loopw [5] (fun i wr=>∃ k:Nat,k <= l.length /\ i = .int .i64 k /\ Q6e (l.drop k) (m.drop k) = Q6e l m /\ Ext w wr) (fun i _=>l.length - (intOf i).toNat)
 case atStart=>exact ⟨0,Nat.zero_le _,rfl,rfl,Ext.refl _⟩
 case round =>
  obtain ⟨k,hk,rfl,hr,hx⟩:=hrel;have HR:=Lib.hid hr; clear hr
  by_cases hlt:k < l.length
  . obtain ⟨b,off,rfl,hcell⟩:=hc k hlt
    obtain ⟨b',off',rfl,hcell'⟩:=hc' k (by omega)
    replace hcell:=hx.cell hcell;replace hcell':=hx.cell hcell';clear hc hc';have i1:(k:Int) < l.length:=by omega
    have i2:(k:Int) < m.length:=by omega
    have hst:=J7o hlt (show k < m.length by omega)
    have HST:=Lib.hid hst; clear hst
    by_cases hx0:ix l k = ix m k
    . have hx1:(ix l k != ix m k) = false:=by simp [hx0]
      have HX:=Lib.hid hx0; clear hx0;go_wp2
      go_quiet (fail)
      all_goals go_wp2
      go_roundw
      case rel=>exact ⟨k + 1,by omega,by go_num,by rw [<- HR.out,HST.out,if_pos HX.out],hx.drewN _⟩
      case measure=>simp [intOf]; omega
    . have hx1:(ix l k != ix m k) = true:=by simp [hx0]
      have HX:=Lib.hid hx0; clear hx0;go_wp2
      go_quiet (fail)
      all_goals go_wp2
      go_quiet (fail)
      all_goals go_wp2
      go_ret;exact ⟨Q0s (by rw [<- HR.out,HST.out,if_neg HX.out]),(hx.drewN _).drewN _⟩
  . clear hc hc'
    go_wp2;go_ret;exact ⟨Q0s (by rw [<- HR.out,List.drop_eq_nil_of_le (by omega)]; rfl),hx⟩
end Go.Proofs
namespace Go.Flow
open Go.RowKit Go.Tw
theorem J6v {a:Act} {u:Value} {x:Operand}:(a.put none u).eval x = a.eval x:=rfl
end Go.Flow
namespace Go.Tw
variable {s:Q0b}
def J4u (s:Q0b) (n:Nat):List Rul:=(List.range s.hist.length).map fun i=>⟨s.hist.getD i [],n.testBit i⟩
end Go.Tw
namespace Go.Tw
open Go.RowKit Go.Flow
theorem J6p {α:Type} (x d:α):∀ (n:Nat) (xs:List α) (i:Nat),n <= xs.length -> (xs.take n ++ [x] ++ xs.drop n).getD i d = if i < n then xs.getD i d else if i = n then x else xs.getD (i - 1) d
 | 0,xs,i,_=>by cases i <;> simp
 | n + 1,[],i,h=>by simp at h
 | n + 1,y :: ys,0,_=>by simp
 | n + 1,y :: ys,i + 1,h=>by
   have:=J6p x d n ys i (by simpa using h)
   simp only [List.take_succ_cons,List.drop_succ_cons,List.cons_append,List.getD_cons_succ,this]
   by_cases h1:i < n
   . have h1':i + 1 < n + 1:=by omega
     simp only [h1,h1',if_true]
   . have h1':¬ (i + 1 < n + 1):=by omega
     by_cases h2:i = n
     . subst h2
       simp
     . have h2':¬ (i + 1 = n + 1):=by omega
       obtain ⟨m,rfl⟩:∃ m,i = m + 1:=⟨i - 1,by omega⟩
       simp only [h1,h1',h2,h2',if_false];simp
theorem Reads.insert {w:World} {vs:List Value} {ll:List (List Int)} {v:Value} {l:List Int} {n:Nat} (h:Reads w vs ll) (hv:Q0d w v l) (hn:n <= ll.length):Reads w (vs.take n ++ [v] ++ vs.drop n) (ll.take n ++ [l] ++ ll.drop n):=by
 have hl:=h.1;refine ⟨by simp [hl],fun i hi=>?_⟩
 rw [J6p _ _ _ _ _ (by omega),J6p _ _ _ _ _ hn]
 simp only [List.length_append,List.length_take,List.length_drop,List.length_singleton] at hi
 split
 . exact h.2 i (by omega)
 . split
   . exact hv
   . exact h.2 (i - 1) (by omega)
theorem J6r {w w1 w2:World} (hx:Ext w.drew w1) (hb:Below w.heap.size w1 w2):Ext w w2:=Below.trans (((Ext.refl w).drew).trans hx) hb
end Go.Tw
namespace Go.Proofs
open Go.RowKit Go.Tw Go.Flow
attribute [local go_sem] Oper.semAt_some
theorem J7a (w:World) (X:Option Addr) (n c g:Nat) (q:Bool) (hg:w.cell? ⟨g,0,none⟩ = some (.bool q)) :
    Calls Tryz.prog 116 #[.slice X n c,.pointer (some ⟨g,0,none⟩)] w fun e w'=>e = .returned (.agg #[.slice X n c,.bool q]) /\ Ext w w':=by
 have hbox:=Ext.box w (.cells #[.slice none 0 0,.bool false] 167);have k0:=Blk.made w 167 #[.slice none 0 0,.bool false];replace hg:=hbox.cell hg;go_enter Tryz.func116,Tryz.ntmps116;go_wp2_with (with_reducible (refine Q7l ?_); refine Q0u rfl _ _ _ rfl Tryz.Z8x rfl rfl k0 rfl rfl Z6e ?_; intro w9 hb9 hl9 ho9);refine bodyPost_ret (Q2d Tryz.results116 rfl hb9 Tryz.J3j Tryz.Z8x) rfl ?_;exact ⟨rfl,Below.trans hbox (hl9 _ (Nat.le_refl _))⟩
def J4r (ll:List (List Int)) (cl:Bool):List Rul:=ll.map fun h=>⟨h,cl⟩
theorem J7g {w w':World} {B:Nat} {ll:List (List Int)} {cl:Bool} {rs:List (Value × Bool)} {v:Value} (h:Q1d w' B 167 2 Go.Tw.Z3h v rs) (hlen:rs.length = ll.length) (hl:ll.length <= 4096) (hr:Z6g w ll cl rs) (hx:Ext w w'):Q3y w' v (J4r ll cl):=by
 refine Q1d.rowsOf (l:=J4r ll cl) h (by rw [hlen,J4r,List.length_map]) (by rw [J4r,List.length_map]; omega) Go.Tw.X6a (fun j h1 h2=>?_) (fun c c' x hc hh=>?_)
 . have h3:j < ll.length:=by omega
   obtain ⟨a,b⟩:=hr j h1 h3;have e:(J4r ll cl)[j] = ⟨ll[j],cl⟩:=by simp [J4r]
   rw [e];refine ⟨a.ext hx,?_⟩;show Value.bool rs[j].2 = _;rw [b]
 . obtain ⟨a,b⟩:=hh
   exact ⟨by rw [<- hc 0 (by omega)]; exact a,by rw [<- hc 1 (by omega)]; exact b⟩
theorem J6t (w:World) (v:Value) (ll:List (List Int)) (g:Nat) (cl:Bool) (hv:Q3o w v ll) (hle:ll.length <= 4096) (hg:w.cell? ⟨g,0,none⟩ = some (.bool cl)) :
    Calls Tryz.prog 98 #[v,.func (.func 116) #[] #[.pointer (some ⟨g,0,none⟩)]] w fun e w'=>∃ x,e = .returned x /\ Q3y w' x (J4r ll cl) /\ Ext w w':=by
 obtain ⟨i0,hi,hz0,hz1,hz2⟩:=info_parts Tryz.J1x;obtain ⟨A,cap,rfl,hl,hcap,hc⟩:=hv.opened;have HC:=Lib.hid hc;have HB:=Lib.hid (fun (W:World) (X:Option Addr) n c (hW:Ext w W)=>J7a W X n c g cl (hW.cell hg));have HFIN:=Lib.hid (fun (w':World) (v:Value) (rs:List (Value × Bool)) (h:Q1d w' w.heap.size 167 2 Go.Tw.Z3h v rs) (hlen:rs.length = ll.length) (hr:Z6g w ll cl rs) (hx:Ext w w')=>J7g h hlen hle hr hx);clear hv hc hg;go_enter Tryz.func98,Tryz.ntmps98;go_wp2
 go_loopw [5,10] (fun o i wr=>∃ (k:Nat) (rs:List (Value × Bool)),k <= ll.length /\ i = .int .i64 k /\ rs.length = k /\ Q1d wr w.heap.size 167 2 Go.Tw.Z3h o rs /\ Z6g w ll cl rs /\ Ext w wr) (fun _ i _=>ll.length - (intOf i).toNat)
 case atStart=>exact ⟨0,[],Nat.zero_le _,rfl,rfl,Q1d.nil _ _ _ _ _,fun j h1=>by simp at h1,Ext.refl _⟩
 case round =>
  obtain ⟨k,rs,hk,rfl,hrl,hown,hrs,hx⟩:=hrel;have HX:=Lib.hid hx;have HOW:=Lib.hid hown;have HRS:=Lib.hid hrs;have HRL:=Lib.hid hrl
  by_cases hlt:k < ll.length
  . obtain ⟨b,off,m,rfl,-,hcell,hm⟩:=HC.out k hlt
    have hge:ll.getD k [] = ll[k]:=Q0v _ hlt;rw [hge] at hm;obtain ⟨Am,capm,rfl,-,-,-⟩:=hm.opened;have HCK:=Lib.hid (fun (W:World) hW=>HB.out W Am ll[k].length capm hW);have HR9:=Lib.hid (HRS.out.snoc hrl hlt hm rfl);obtain ⟨n,hn⟩:∃ n,ll[k].length = n:=⟨_,rfl⟩;rw [hn] at HCK HR9 hcell;replace hcell:=hx.cell hcell;have hkI:(k:Int) < ll.length:=by omega
    have HLW:Hid (rs.length + 1 <= 100000):=Lib.hid (by omega)
    have HSW:=Lib.hid HX.out.size;obtain ⟨Ao,co,hos,-⟩:=hown.shape;subst hos;clear hge hm hn hown hrs hx hrl
    go_light
    go_wp2_with (first | (refine (HCK.out _ HX.out).mono ?_; rintro e w5 ⟨rfl,hx5⟩; have HX5:=Lib.hid hx5; clear hx5) | (refine Q1m (o:=⟨some 19,_,_,_,_,_⟩) rfl ?_; refine Q2x (.tmp 14) (.tmp 18) 36 rfl w.heap.size 167 i0 (.agg #[.slice none 0 0,.bool false]) 2 32 Tryz.underlying36 hi hz0 hz1 hz2 rfl (by decide) Go.Tw.Z3h Go.Tw.X6a _ rs (Value.slice Am n capm,cl) rfl (HOW.out.below (HX5.out.trans (Ext.box _ _))) ⟨w5.heap.size,0,none⟩ 1 rfl (Q6g (xs:=Go.Tw.Z3h (Value.slice Am n capm,cl)) (Blk.made _ _ _)) (by unfold Go.Tw.Z3h; simp [Value.oneCell']) HLW.out (by decide) (by have h1:=(HX5.out.trans (Ext.box w5 (.cells #[.slice Am n capm,.bool cl] 167))).size; have h2:=HSW.out; omega) ?_; intro v' w9 hown' hgrow))
    have hxx:=HX5.out.trans (Ext.box w5 (.cells #[.slice Am n capm,.bool cl] 167));have hO3:=HOW.out.below hxx;have HO9:=Lib.hid hown';have HX9:Hid (Ext w w9):=Lib.hid (Below.grown (HX.out.trans hxx) hgrow (by have:=hxx.size; have:=HSW.out; omega) (fun b hb=>(hO3.Q8r b hb).1))
    have HL9:Hid ((rs ++ [(Value.slice Am n capm,cl)]).length = k + 1):=Lib.hid (by rw [List.length_append,HRL.out]; rfl)
    clear hxx hO3 hown' hgrow;go_wp2;go_roundw
    case rel=>exact ⟨k + 1,rs ++ [(Value.slice Am n capm,cl)],by omega,by go_num,HL9.out,HO9.out,HR9.out,HX9.out⟩
    case measure=>simp [intOf]; omega
  . have hke:k = ll.length:=by omega
    subst hke;clear hown hrs hx;go_wp2;go_ret;exact ⟨_,rfl,HFIN.out _ _ _ HOW.out HRL.out HRS.out HX.out,HX.out⟩
def J4v (s:Q0b) (c:Bool):List Rul:=if s.err = 0 then always s c else []
def J7l (s:Q0b) (c:Bool) (e:Ending) (w':World):Prop:=∃ x,e = .returned (.tuple #[.agg #[x],.int .i64 s.err]) /\ Q3y w' x (J4v s c)
theorem J6m (w:World) (v:Value) (s:Q0b) (cl:Bool) (hv:Q0h w v s) (hs:Q3d s) :
    Calls Tryz.prog 43 #[v,.bool cl] w fun e w'=>J7l s cl e w' /\ Ext w w':=by
 obtain ⟨a,b,rfl,h2⟩:=hv;obtain ⟨A,capa,rfl,-,-,-⟩:=h2.ships.opened;obtain ⟨B,capb,rfl,-,-,-⟩:=h2.members.opened;have H2:=Lib.hid h2;have HS:=Lib.hid hs;clear h2 hs;go_enter Tryz.func43,Tryz.ntmps43;go_wp2_with fail;change Calls _ _ _ (((w.alloc (.cells #[.int .i64 s.limit,.slice A s.ships.length capa,.slice B s.members.length capb] 34)).alloc (.cells #[.bool cl] 4)).alloc (.cells #[.slice none 0 0] 38)) _;obtain ⟨W,hWW,k0,k1,k2,HXW,eW⟩:=X7w w 34 #[.int .i64 s.limit,.slice A s.ships.length capa,.slice B s.members.length capb] 4 #[.bool cl] 38 #[.slice none 0 0];rw [hWW];clear hWW;have K0:=Lib.hid k0;have K1:=Lib.hid k1;have K2:=Lib.hid k2;clear k0 k1 k2;refine (Q1s _ _ s ⟨_,_,rfl,H2.out.ext HXW.out⟩ HS.out).mono ?_;rintro e w5 ⟨rfl,hx5⟩;have HX5:=Lib.hid (HXW.out.trans hx5);have HK0:=Lib.hid (K0.out.ext hx5);have HK1:=Lib.hid (K1.out.ext hx5);have HK2:=Lib.hid (K2.out.ext hx5)
 by_cases he:s.err = 0
 . have HV:=Lib.hid (Q0y.of he)
   have HF:Hid (J4v s cl = always s cl):=Lib.hid (if_pos he);have HER:=Lib.hid he;have hne:(s.err != 0) = false:=by simp [he]
   have HHI:=Lib.hid (Q7g w5 _ s ⟨_,_,rfl,H2.out.ext HX5.out⟩ HV.out);obtain ⟨E,hE⟩:∃ E,s.err = E:=⟨_,rfl⟩;have HE0:=Lib.hid (hE.symm.trans he);have c0:=(HK0.out).cell 0;have c1:=(HK0.out).cell 1;have c2:=(HK0.out).cell 2;simp only [Go.Tw.gA,Go.Tw.gB,Go.Tw.gC] at c0 c1 c2;rw [hE] at hne ⊢;rw [HE0.out];clear he hE hx5;go_wp2_with (go_at_call 99; refine HHI.out.mono ?_; rintro e w7 ⟨x7,rfl,h1,h2⟩; refine halted ?_);have HX7:=Lib.hid h2;obtain ⟨A7,c7,hs7,-,-,-⟩:=h1.opened;subst hs7;have HMR:=Lib.hid (J6t w7 _ s.hist (w.heap.size + 1) cl h1 (Z9p HV.out) ((HK1.out.ext h2).cell 0));clear h1 h2;unfold Q1j;go_wp2_with (go_at_call 98; refine HMR.out.mono ?_; rintro e w8 ⟨x8,rfl,h1,h2⟩; refine halted ?_);have HX8:=Lib.hid (HX7.out.trans h2);obtain ⟨R8,c8,hs8,-,-,-⟩:=h1.opened;subst hs8;have HU8:=Lib.hid h1;have hp:=HK2.out.ext HX8.out;clear h1 h2;unfold Q1j;go_wp2_with (with_reducible (refine Q7l ?_); refine Q0u rfl _ _ _ rfl Tryz.Q4z rfl rfl hp rfl rfl Y2r ?_; intro w9 hb9 hl9 ho9);refine bodyPost_ret (Q4i Tryz.results43 rfl hb9 Tryz.X0r Tryz.Q4z rfl) rfl ?_;exact ⟨⟨_,by rw [HER.out]; rfl,by rw [HF.out]; exact Z0x HU8.out hp (fun k _ hk=>ho9 k hk)⟩,Below.trans (HX5.out.trans HX8.out) (hl9 _ (by omega))⟩
 . have HF:Hid (J4v s cl = []):=Lib.hid (if_neg he)
   have hne:(s.err != 0) = true:=by simp [he]
   obtain ⟨E,hE⟩:∃ E,s.err = E:=⟨_,rfl⟩;have HPE:=Lib.hid hE;have hp:=HK2.out;rw [hE] at hne ⊢;clear he hE hx5;go_wp2_with (with_reducible (refine Q7l ?_); refine Q0u rfl _ _ _ rfl Tryz.Q4z rfl rfl hp rfl rfl Y2r ?_; intro w9 hb9 hl9 ho9);refine bodyPost_ret (Q4i Tryz.results43 rfl hb9 Tryz.X0r Tryz.Q4z rfl) rfl ?_;exact ⟨⟨_,by rw [HPE.out]; rfl,by rw [HF.out]; exact Go.Tw.Rows.nil _ _ _⟩,Below.trans HX5.out (hl9 _ (by omega))⟩
end Go.Proofs
namespace Go.Proofs
open Go.RowKit Go.Tw Go.Flow
theorem Tryz.info22:(Tryz.prog.info? 22).map (fun i=>(i.zero,i.size,i.bytes)) = some (some (.slice none 0 0),1,24):=by kernel_rfl
def RL (w:World) (vs:List Value) (ll:List (List Int)):Prop:=vs.length = ll.length /\ ∀ j,j < ll.length -> Q0t w 0 3 (.int .i64) (vs.getD j undef) (ll.getD j [])
def LL (w:World) (B:Nat) (v:Value) (ll:List (List Int)):Prop:=∃ vs,Q0t w B 22 idV v vs /\ RL w vs ll
theorem RL.ext {w w':World} {vs:List Value} {ll:List (List Int)} (h:RL w vs ll) (hx:Ext w w'):RL w' vs ll:=⟨h.1,fun j hj=>(h.2 j hj).below hx⟩
theorem LL.ext {w w':World} {B:Nat} {v:Value} {ll:List (List Int)} (h:LL w B v ll) (hx:Ext w w'):LL w' B v ll:=let ⟨vs,h1,h2⟩:=h; ⟨vs,h1.below hx,h2.ext hx⟩
theorem LL.weaken {w:World} {B B':Nat} {v:Value} {ll:List (List Int)} (h:LL w B v ll) (hb:B' <= B):LL w B' v ll:=let ⟨vs,h1,h2⟩:=h; ⟨vs,h1.weaken hb,h2⟩
theorem LL.nil (w:World) (B:Nat):LL w B (.slice none 0 0) []:=⟨[],Q0t.nil _ _ _ _,rfl,fun j hj=>by simp at hj⟩
theorem J7s {w:World} {v:Value} {l:List Int} (h:Q0t w 0 3 (.int .i64) v l):(idV v).oneCell' = true:=by
 obtain ⟨b,c,rfl,_⟩:=h.shape;rfl
theorem RL.one {w:World} {vs:List Value} {ll:List (List Int)} (h:RL w vs ll):∀ y ∈ vs,(idV y).oneCell' = true:=by
 intro y hy;obtain ⟨i,hi,rfl⟩:=List.getElem_of_mem hy;have h2:=h.2 i (by rw [<- h.1]; exact hi)
 rw [Q0v _ hi] at h2;exact J7s h2
theorem RL.insert {w:World} {vs:List Value} {ll:List (List Int)} {v:Value} {l:List Int} {n:Nat} (h:RL w vs ll) (hv:Q0t w 0 3 (.int .i64) v l) (hn:n <= ll.length):RL w (vs.take n ++ [v] ++ vs.drop n) (ll.take n ++ [l] ++ ll.drop n):=by
 obtain ⟨h1,h2⟩:=h;refine ⟨by simp [h1],fun i hi=>?_⟩
 have hlen:(ll.take n ++ [l] ++ ll.drop n).length = ll.length + 1:=by simp; omega
 rw [hlen] at hi;rw [J6p v undef n vs i (by omega),J6p l [] n ll i hn]
 by_cases h3:i < n
 . rw [if_pos h3,if_pos h3]; exact h2 i (by omega)
 . rw [if_neg h3,if_neg h3]
   by_cases h4:i = n
   . rw [if_pos h4,if_pos h4]; exact hv
   . rw [if_neg h4,if_neg h4]; exact h2 (i - 1) (by omega)
theorem J7f {α:Type} (a b:List α) (d:α) (j:Nat):(a ++ b).getD j d = if j < a.length then a.getD j d else b.getD (j - a.length) d:=by
 by_cases h:j < a.length
 . rw [if_pos h]; simp [List.getElem?_append_left h]
 . rw [if_neg h]; simp [List.getElem?_append_right (show a.length <= j by omega)]
theorem RL.app {w:World} {vs us:List Value} {ll mm:List (List Int)} (h:RL w vs ll) (k:RL w us mm):RL w (vs ++ us) (ll ++ mm):=by
 refine ⟨by simp [h.1,k.1],fun j hj=>?_⟩
 rw [J7f,J7f,h.1];rw [List.length_append] at hj
 by_cases h3:j < ll.length
 . rw [if_pos h3,if_pos h3]; exact h.2 j h3
 . rw [if_neg h3,if_neg h3]; exact k.2 _ (by omega)
theorem RL.grown {w w':World} {vs:List Value} {ll:List (List Int)} {base n size:Nat} {cv:Value} {xs:List Value} {e:TypeId} (h:RL w vs ll) (hown:w.ownsRow base e size cv n xs) (he:e ≠ 3) (hg:w.grownBy w' cv.ownBlock):RL w' vs ll :=
 ⟨h.1,fun j hj=>Q4t (h.2 j hj) hown he hg⟩
theorem RL.reads {w:World} {vs:List Value} {ll:List (List Int)} (h:RL w vs ll) (hs:∀ j,j < ll.length -> (ll.getD j []).length <= 1000):Reads w vs ll:=⟨h.1,fun j hj=>(h.2 j hj).ints (by have:=hs j hj; omega)⟩
theorem LL.read {w:World} {B:Nat} {v:Value} {ll:List (List Int)} (h:LL w B v ll) (hl:ll.length <= 2000) (hs:∀ j,j < ll.length -> (ll.getD j []).length <= 1000):Q3o w v ll :=
 let ⟨_,h1,h2⟩:=h; h1.J4a (h2.reads hs) (by omega)
theorem J6o {K:Value -> World -> Prop} {o:Oper} {a:Act} {w:World} (s x:Operand) (ho:o.op = .call { callee:=.builtin .append,args:=#[s,x],argTypes:=#[72,72] })
    {B:Nat} {v u:Value} {L M:List (List Int)} (hs:a.eval s = v) (h1:LL w B v L) (hx:a.eval x = u) (h2:LL w B u M) (hL:L.length <= 2000) (hM:M.length <= 2000) (hB:B <= w.heap.size)
    (hK:∀ v' w',LL w' B v' (L ++ M) -> Below B w w' -> K v' w'):gives Tryz.prog K ((execOp a.eval o).run Tryz.prog w):=by
 obtain ⟨i0,hi,hz0,hz1,hz2⟩:=info_parts Tryz.info22;obtain ⟨vs,o1,m1⟩:=h1;obtain ⟨us,o2,m2⟩:=h2;have l1:=m1.1;have l2:=m2.1;exact Q5k s x 72 ho B 22 i0 (.slice none 0 0) 24 Tryz.underlying72 hi hz0 hz1 hz2 rfl idV v u vs us hs o1 hx (Y9p o2) m2.one (by omega) (by decide) hB fun v' w' hown hg=>hK _ _ ⟨vs ++ us,hown,(m1.grown o1 (by decide) hg).app (m2.grown o1 (by decide) hg)⟩ (below_grown o1 hg (Nat.le_refl _) hB)
theorem J7j {w:World} {b o n c:Nat} {l:List Int} (h:Q0d w (.slice (some ⟨b,o,none⟩) n c) l) (hn:l.length = n):∀ j u,(l.map (Value.int .i64))[j]? = some u -> w.cell? ((⟨b,o,none⟩:Addr).add j) = some u:=by
 subst hn;obtain ⟨A,cap,hv,hl,hcap,hc⟩:=h.opened;cases hv;intro j u hj;rw [List.getElem?_map] at hj;obtain ⟨y,hy,rfl⟩:=Option.map_eq_some_iff.1 hj;obtain ⟨hjl,rfl⟩:=List.getElem?_eq_some_iff.1 hy;obtain ⟨b',off',he,hcell⟩:=hc j hjl;cases he;rw [addr_add,hcell,Q4w hjl]
theorem J7b {h:List Int} {row:List (List Int)} {n:Nat} (hn:n = Q3c h row row.length) (h0:n = 0 ∨ row.getD (n - 1) [] ≠ h):X0h h row = row.take n ++ [h] ++ row.drop n:=by
 unfold X0h;simp only [<- hn];rw [if_neg];rintro ⟨h1,h2⟩
 rcases h0 with h0 | h0
 . omega
 . exact h0 h2
theorem J7u {h:List Int} {row:List (List Int)} {n:Nat} (hn:n = Q3c h row row.length) (h0:0 < n) (he:row.getD (n - 1) [] = h):X0h h row = row:=by
 unfold X0h;simp only [<- hn];rw [if_pos ⟨h0,he⟩]
theorem J7h {s:Q0b} {t i:Nat} (hi:i <= s.members.length) (h:∀ k,k < s.members.length -> t + 1 <= (Q0c s.members k).length):∀ j,j < (s.X2l t i).length -> ((s.X2l t i).getD j []).length = t + 1:=by
 intro j hj;rw [Q0v _ hj];obtain ⟨k,hk,he⟩:=(Q0b.X7k t _ i).1 (List.getElem_mem hj);rw [he,List.length_take];have:=h k (by omega)
 omega
theorem J7n {s:Q0b} (hS:Q0y s) {w:World} {B:Nat} {x:Value} (h:LL w B x s.hist):Q3o w x s.hist:=by
 refine h.read (by have:=Z7m hS; omega) fun j hj=>?_
 rw [Q0v _ hj];have:=Z3t hS _ (List.getElem_mem hj);omega
theorem J7d {s:Q0b} (hS:Q0y s):0 < s.hist.length:=by
 refine List.length_pos_of_mem (a:=(Q0c s.members 0).take (0 + 1)) ?_;exact (Q0b.Q4v _ _).2 ⟨0,hS.tides.1,0,hS.some.1,rfl⟩
def RuR (w:World) (qs:List (Value × Rul)):Prop:=∀ q ∈ qs,Q0t w 0 3 (.int .i64) q.1 q.2.classes
theorem RuR.ext {w w':World} {qs:List (Value × Rul)} (h:RuR w qs) (hx:Ext w w'):RuR w' qs:=fun q hq=>(h q hq).below hx
theorem RuR.set {w:World} {qs:List (Value × Rul)} {O k:Nat} {u:Value} {S:TypeId} {cs:Array Value} (h:RuR w qs) (hb:Blk w O S cs) (hT:S ≠ 3):RuR (w.setCell ⟨O,k,none⟩ u) qs:=fun q hq=>X2m (h q hq) hb hT
theorem RuR.grown {w w':World} {qs:List (Value × Rul)} {base n size:Nat} {e:TypeId} {cv:Value} {xs:List Value} (h:RuR w qs) (hown:w.ownsRow base e size cv n xs) (he:e ≠ 3) (hg:w.grownBy w' cv.ownBlock):RuR w' qs:=fun q hq=>Q4t (h q hq) hown he hg
theorem RuR.snoc {w:World} {qs:List (Value × Rul)} {q:Value × Rul} (h:RuR w qs) (hq:Q0t w 0 3 (.int .i64) q.1 q.2.classes):RuR w (qs ++ [q]):=fun x hx=>by
 rcases List.mem_append.1 hx with hx | hx
 . exact h x hx
 . rw [List.mem_singleton.1 hx]; exact hq
theorem J7v {w:World} {q:Value × Rul} (h:Q0t w 0 3 (.int .i64) q.1 q.2.classes):∀ u ∈ Z3h q,u.oneCell' = true:=by
 obtain ⟨b,c,e,_⟩:=h.shape;intro u hu;simp only [Z3h,List.mem_cons,List.not_mem_nil,or_false] at hu
 rcases hu with rfl | rfl
 . rw [e]; rfl
 . rfl
theorem J6u {w:World} {B:Nat} {T:TypeId} {v:Value} {qs:List (Value × Rul)} (h:Q1d w B T 2 Z3h v qs) (hl:qs.length <= 100000) (hr:RuR w qs) (hs:∀ q ∈ qs,q.2.classes.length <= 4096):Q3y w v (qs.map (·.2)) :=
 Z0w h hl (fun q hq=>(hr q hq).ints (by have:=hs q hq; omega)) (Ext.refl _)
theorem J5f {α:Type} {w:World} {base base' k:Nat} {e:TypeId} {enc:α -> List Value} {v:Value} {l:List α} (h:Q1d w base e k enc v l) (hb:base' <= base):Q1d w base' e k enc v l:=by
 obtain ⟨h1,h2⟩:=h;refine ⟨h1,?_⟩
 rcases h2 with h2 | ⟨g,cap,cur,hv,hbg,r⟩
 . exact .inl h2
 . exact .inr ⟨g,cap,cur,hv,Nat.le_trans hb hbg,r⟩
def J7x (T:TypeId) (w w':World) (x:Value) (p:List Rul):Prop:=∃ vo qs,x = .agg #[vo] /\ Q1d w' w.heap.size T 2 Z3h vo qs /\ qs.map (·.2) = p /\ RuR w' qs
theorem J7x.is {T:TypeId} {w w':World} {x:Value} {p:List Rul} (h:J7x T w w' x p) (hl:p.length <= 4096) (hs:∀ r ∈ p,r.classes.length <= 4096):Q1c w' x p:=by
 obtain ⟨vo,qs,rfl,ho,rfl,hr⟩:=h;exact ⟨vo,rfl,J6u ho (by rw [List.length_map] at hl; omega) hr fun q hq=>hs _ (List.mem_map_of_mem hq)⟩
theorem J6y (w:World) (a:Option Addr) (n c:Nat) (b:Bool):(Instr.build 115 #[(0,.slice a n c),(1,.bool b)]).run Tryz.prog w = .ok (.agg #[.slice a n c,.bool b]) w:=by kernel_rfl
theorem J7m (w:World) (a:Option Addr) (n c:Nat) (b:Bool):(Instr.buildSlice 45 1 #[(0,.agg #[.slice a n c,.bool b])]).run Tryz.prog w = .ok (.slice (some ⟨w.heap.size,0,none⟩) 1 1) (w.alloc (.cells #[.slice a n c,.bool b] 115)):=by kernel_rfl
theorem Tryz.J7w (w:World):(sizeOf 45).run Tryz.prog w = .ok 1 w:=by kernel_rfl
theorem J7e {α:Type} {enc:α -> List Value} {k:Nat} (hk:∀ x,(enc x).length = k) {x:Value} {y:α}:∀ (l:List α) (i j:Nat) (hi:i < l.length),j < k -> enc y = (enc l[i]).set j x -> (l.flatMap enc).set (i * k + j) x = (l.set i y).flatMap enc
 | a :: l,0,j,_,hj,he=>by
   rw [List.set_cons_zero,List.flatMap_cons,List.flatMap_cons,he,Nat.zero_mul,Nat.zero_add,List.set_append_left _ _ (by rw [hk]; exact hj)]
   rfl
 | a :: l,i + 1,j,hi,hj,he=>by
   have ih:=J7e hk l i j (by simpa using hi) hj (by simpa using he)
   rw [List.set_cons_succ,List.flatMap_cons,List.flatMap_cons,<- ih,List.set_append_right _ _ (by rw [hk,Nat.add_mul]; omega)]
   congr 2
   rw [hk,Nat.add_mul];omega
theorem J6x {α:Type} {w:World} {base k:Nat} {e:TypeId} {enc:α -> List Value} {v:Value} {l:List α} (h:Q1d w base e k enc v l) (h0:0 < l.length) :
    ∃ g cap cur,v = .slice (some ⟨g,0,none⟩) l.length cap /\ base <= g /\ Blk w g e cur /\ l.length <= cap /\ cap <= maxLen /\ cur.size = cap * k /\ cur.toList.take (l.length * k) = l.flatMap enc:=by
 rcases h.2 with ⟨_,hn⟩ | ⟨g,cap,cur,hv,hb,hg,hc,hm,hs,ht⟩
 . omega
 . exact ⟨g,cap,cur,hv,hb,hg,hc,hm,hs,ht⟩
theorem J7r {α:Type} {w':World} {base k g cap:Nat} {e:TypeId} {enc:α -> List Value} {cur:Array Value} {l:List α} {i j:Nat} {x:Value} {y:α} (hk:∀ x,(enc x).length = k) (hb:base <= g) (hc:l.length <= cap) (hm:cap <= maxLen) (hs:cur.size = cap * k) (ht:cur.toList.take (l.length * k) = l.flatMap enc)
    (hi:i < l.length) (hj:j < k) (he:enc y = (enc l[i]).set j x) (hw:Blk w' g e (cur.setIfInBounds (i * k + j) x)):Q1d w' base e k enc (.slice (some ⟨g,0,none⟩) l.length cap) (l.set i y):=by
 refine ⟨by rw [X1i hk],.inr ⟨g,cap,_,by rw [List.length_set],hb,hw,by rw [List.length_set]; exact hc,hm,by simpa using hs,?_⟩⟩
 rw [List.length_set,Array.toList_setIfInBounds,List.take_set,ht,J7e hk l i j hi hj he]
theorem J7p {α:Type} {w:World} {g k:Nat} {e:TypeId} {enc:α -> List Value} {cur:Array Value} {l:List α} (hk:∀ x,(enc x).length = k) (hb:Blk w g e cur) (ht:cur.toList.take (l.length * k) = l.flatMap enc) {i j:Nat} (hi:i < l.length) (hj:j < k):w.cell? ⟨g,i * k + j,none⟩ = (enc l[i])[j]?:=by
 rw [hb.cell,<- flat_get hk l i j hi hj,<- ht,List.getElem?_take,if_pos,Array.getElem?_toList];have:(i + 1) * k <= l.length * k:=Nat.mul_le_mul_right k hi;rw [Nat.add_mul] at this;omega
theorem J6n {w w':World} {a g:Nat} {T:TypeId} {cs:Array Value} (h:Blk w a T cs) (hne:a ≠ g) (ho:∀ k,k ≠ g -> w'.heap[k]? = w.heap[k]?):Blk w' a T cs:=by
 unfold Blk at *; rw [ho a hne]; exact h
end Go.Proofs
