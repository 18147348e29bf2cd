/- What the arguments of a law of chapter 5 read as: seasons, policies, lists of numbers, short lists of truth values. DERIVED: THE SHELF's CONTRACTS AT THIS DUMP, IN PLAIN WORDS (tools/lay-plain.mjs out of 'TryzShelf.lean', which tools/lay-shelf.mjs wrote): THE SAME DECLARATIONS UNDER THE SAME NAMES: 'import', 'namespace', 'open', 'def', 'theorem' AND NOTHING ELSE: no command of the shelf's: FOR A HAND-IN. Each laying: the table of numbers ('.._ren') and one theorem, a field a fact of the dump's own or the kernel's comparison; each contract: ONE APPLICATION. Small aids for the uses of the region theorem and for boxes. What the functions of chapter 5 come to, in plain lists and numbers: no program is in sight here. Contracts of the reference: before, count, dry. Contract of the reference: Follow. The closings of a policy as the reference makes them (each rule that fits is put behind) are those of the specification: plain lists, no program is in sight. Contract of the reference: closings. Contract of the reference: Play. A whole load of a block inside a drawn region. A list of lists that a call makes and appends to. Turning a rule of a policy changes what is done after its history alone: plain lists, no program is in sight. Blocks of structs: their cells by a function of the place; stores, copies and clears of parts of a block. -/
import Derived.Test.YthnobngcipaljaaGreatDoorPp35
set_option maxRecDepth 1000000
set_option maxHeartbeats 64000000
set_option linter.unusedVariables false
set_option linter.unusedSimpArgs false
set_option linter.constructorNameAsVariable false
open Go.Lib (hid)
namespace Go.Proofs
open Go.RowKit Go.Tw Go.ChangeShapes Go.WideShapes Go.Deep
section
variable {H:Type} {enc:TypeId × Value -> H} {W:World}
theorem Tryz.cBo:Tryz.prog.cellsOf 4=1:=by kernel_rfl
theorem Tryz.cRu:Tryz.prog.cellsOf 115=2:=by kernel_rfl
theorem Tryz.bRu:Tryz.prog.bytesOf 115=32:=by kernel_rfl
theorem J5h {fuel:Nat} {v:Value} {y:DataW H × List MemPlace} (h:DataW.trod enc Tryz.prog W 0 (fun _=>true) true fuel 4 [v]=some y):∃ z,v=.bool z:=by
 obtain ⟨z,h1,_⟩:=DataW.trod_bool Tryz.underlying4 h;exact ⟨z,by simpa using h1⟩
theorem J5d {fuel:Nat} {v:Value} {y:DataW H × List MemPlace} (h:DataW.trod enc Tryz.prog W 0 (fun _=>true) true fuel 45 [v]=some y) (hw:X2y 45 y.1):∃ l,Q3m W v l :=
 X2x (α:=Rul) Tryz.underlying45 Tryz.cRu (by decide) Tryz.bRu (by decide) (fun cs y n hl h hw=>by
  obtain ⟨y0,y1,m,rfl,_,h0,h1⟩:=trod_struct2 Tryz.underlying115 h
  match cs,hl with
  | [c0,c1],_ =>
    have hw2:∀ x ∈ DataW.weightsEach Tryz.prog [22,4] [y0.1,y1.1],x <= 140737488351232:=fun x hx=>hw x (by simpa [DataW.weights,Tryz.underlying115] using hx)
    obtain ⟨w0,_⟩:=Q4u hw2;have h0':DataW.trod enc Tryz.prog W 0 (fun _=>true) true m 22 [c0]=some y0:=by simpa [Tryz.cI,Tryz.cBo] using h0
    have h1':DataW.trod enc Tryz.prog W 0 (fun _=>true) true m 4 [c1]=some y1:=by simpa [Tryz.cI,Tryz.cBo] using h1
    obtain ⟨l,hl⟩:=Q5z h0' w0;obtain ⟨z,rfl⟩:=J5h h1';exact ⟨⟨l,z⟩,hl,rfl⟩)
  (fun _ c c' x hc h=>⟨by rw [<- hc 0 (by decide)]; exact h.1,by rw [<- hc 1 (by decide)]; exact h.2⟩) h hw
end
end Go.Proofs
namespace Go.Proofs
open Go.Shelf
open Go.Lib in
def Tryz.J5g:Go.Shelf.Ren:=⟨fun | 15=>174 | n=>n,fun | 22=>22 | 3=>3 | 4=>4 | n=>n,fun | n=>n⟩
theorem Tryz.laysNm215:Go.Proofs.Lays2.n15 Tryz.prog Tryz.J5g:={
 mixed:=by kernel_rfl
 f15:=Tryz.func174.trans (congrArg some (by kernel_rfl))
 t3:=Tryz.underlying3
 a3:=Tryz.isAgg3
 z3:=Tryz.sizeOf3
 v3:=Tryz.zeroValue3
 t4:=Tryz.underlying4
 a4:=Tryz.isAgg4
 z4:=Tryz.sizeOf4
 v4:=Tryz.zeroValue4
 t22:=Tryz.underlying22
 a22:=Tryz.isAgg22
 z22:=Tryz.sizeOf22
 v22:=Tryz.zeroValue22
 i3:=by kernel_rfl }
open Go.RowKit Go.Lib in
theorem Tryz.slices_Clone_int (b off n c:Nat) (zs:List Int) (w:World) (hz:n <= zs.length) (hbig:n * 8 <= 140737488355328) (hc:∀ j,j < zs.length -> w.cell? ⟨b,off + j,none⟩=some (.int .i64 (zs.getD j 0))) :
    Calls Tryz.prog 174 #[.slice (some ⟨b,off,none⟩) n c] w fun e w'=>∃ v',e=.returned v' /\ w'.ownsRow w.heap.size 3 1 v' n ((zs.take n).map (Value.int .i64)) /\ v' ≠ .slice none 0 0 /\ Below w.heap.size w w':=Any.slices_Clone_int Tryz.laysNm215 b off n c zs w hz hbig hc
open Go.RowKit Go.Lib in
theorem Tryz.slices_Clone_int_nil (n c:Nat) (w:World) :
    Calls Tryz.prog 174 #[.slice none n c] w fun e w'=>e=.returned (.slice none 0 0) /\ w'=w:=Any.slices_Clone_int_nil Tryz.laysNm215 n c w
open Go.RowKit Go.Lib in
theorem Tryz.slices_Clone_int_zero (a:Addr) (c:Nat) (w:World) :
    Calls Tryz.prog 174 #[.slice (some a) 0 c] w fun e w'=>∃ v',e=.returned v' /\ w'.ownsRow w.heap.size 3 1 v' 0 [] /\ v' ≠ .slice none 0 0 /\ Below w.heap.size w w':=Any.slices_Clone_int_zero Tryz.laysNm215 a c w
end Go.Proofs
namespace Go.Tw
open Go.RowKit Go.Flow
theorem J2m {α:Type} {P:Program} {K:Value -> World -> Prop} {o:Oper} {a:Act} {w:World} (s x:Operand) (t:TypeId) (ho:o.op=.call { callee:=.builtin .append,args:=#[s,x],argTypes:=#[t,t] })
    (base:Nat) (e:TypeId) (i:TypeInfo) (z:Value) (bytes:Nat) (ht:P.underlying t=some (.slice e)) (hi:P.info? e=some i) (hz:i.zero=some z) (hsize:i.size=1) (hby:i.bytes=bytes) (hzs:z.cells.size=1)
    (enc:α -> Value) (v src:Value) (ys:List α) (hs:a.eval s=v) (hv:∃ g,v=.slice (some ⟨g,0,none⟩) 0 0 /\ base <= g /\ w.heap[g]?=some (.cells #[] e (0,0))) (hx:a.eval x=src) (hsrc:Src w enc src ys) (h1:∀ y ∈ ys,(enc y).oneCell'=true)
    (h63:ys.length <= 4398046511104) (hb:bytes <= 32) (hbase:base <= w.heap.size)
    (h:∀ v' w',Q0q w' base e enc v' ys -> Ext w w' -> K v' w'):gives P K ((execOp a.eval o).run P w):=by
 obtain ⟨g,rfl,hbg,hg⟩:=hv;have hown:Q0q w base e enc (.slice (some ⟨g,0,none⟩) 0 0) ([]:List α):=⟨by simp,.inr ⟨g,0,#[],rfl,hbg,hg,Nat.le_refl _,Nat.zero_le _,rfl,by simp⟩⟩
 obtain ⟨A,c,rfl,hc⟩:=hsrc;cases ys with
 | nil =>
   unfold execOp;simp only [ho,resolve,invoke,builtin,Sem.run_bind,Sem.run_pure,Result.andThen_ok,List.map_toArray,List.map_cons,List.map_nil,hs,hx];rw [List.length_nil,Q7q (P:=P) w t o.type e i ht hi _ A 0 0 c (Nat.le_refl _)];exact h _ _ hown (Ext.refl _)
 | cons y ys =>
   obtain ⟨b0,off0,rfl,_⟩:=hc 0 (by simp)
   have hnews:∀ j u,((y :: ys).map enc)[j]?=some u -> w.cell? ((⟨b0,off0,none⟩:Addr).add j)=some u:=fun j u hu=>by
    rw [List.getElem?_map] at hu
    rcases Nat.lt_or_ge j (y :: ys).length with hj | hj
    . rw [List.getElem?_eq_getElem hj] at hu
      simp only [Option.map_some,Option.some.injEq] at hu;obtain ⟨b',off',hA,hcell⟩:=hc j hj;cases hA;rw [<- hu,addr_add]; exact hcell
    . rw [List.getElem?_eq_none hj] at hu; cases hu
   have hbytes:(y :: ys).length * bytes <= 140737488355328:=by
    have:(y :: ys).length * bytes <= 4398046511104 * 32:=Nat.mul_le_mul h63 hb;omega
   obtain ⟨v',w',hr,h2,h3,h4⟩:=run_append_own (P:=P) w base t o.type e i z 1 bytes ht hi hz hsize hby hzs (by decide) _ 0 (([]:List α).map enc) hown ⟨b0,off0,none⟩ (y :: ys).length c ((y :: ys).map enc) (by simp) hnews (fun u hu=>by obtain ⟨y,hy,rfl⟩:=List.mem_map.1 hu; exact h1 y hy) (by unfold maxLen; omega) (by rw [Nat.zero_add]; exact hbytes) hbase
   have hgr:=run_append_grow (P:=P) w t o.type e i z ht hi hz ⟨g,0,none⟩ 0 0 [] (by simp) (by simp) ⟨b0,off0,none⟩ (y :: ys).length c ((y :: ys).map enc) (by rw [hsize]; simp) hnews (by simp) (by simp only [List.length_cons] at h63 ⊢; omega) (by rw [hby]; exact growslice_fits (by simp) (by rw [Nat.zero_add]; exact hbytes))
   rw [hr] at hgr;injection hgr with hv' hw';unfold execOp;simp only [ho,resolve,invoke,builtin,Sem.run_bind,Sem.run_pure,Result.andThen_ok,List.map_toArray,List.map_cons,List.map_nil,hs,hx,hr];refine h v' w' ?_ (by rw [hw']; exact ((Ext.refl w).drew).alloc _)
   unfold Q0q
   simpa using h2
end Go.Tw
namespace Go.Tw
namespace Q0b
end Q0b
namespace Q0b
end Q0b
def J2n (p:List Rul) (n:Nat):List Rul:=(List.range p.length).map fun i=>⟨Q0n p i,Q3p p i != (i == n)⟩
namespace Mem
end Mem
namespace Mem
end Mem
end Go.Tw
namespace Go.Proofs
open Go.RowKit Go.Tw Go.Flow
theorem J6s {a b:List Int} {k:Nat} (ha:k < a.length) (hb:k < b.length):Q5y (a.drop k) (b.drop k)=if ix a k=ix b k then Q5y (a.drop (k + 1)) (b.drop (k + 1)) else decide (ix a k < ix b k):=by
 rw [Q3b ha,Q3b hb]; rfl
theorem J3b (w:World) (u v:Value) (l m:List Int) (hu:Q0d w u l) (hv:Q0d w v m) (hlen:l.length=m.length) :
    Calls Tryz.prog 117 #[u,v] w fun e w'=>e=.returned (.bool (Q5y l m)) /\ Ext w w':=by
 obtain ⟨A,cap,rfl,hl,hcap,hc⟩:=hu.opened;obtain ⟨A',cap',rfl,hl',hcap',hc'⟩:=hv.opened;clear hu hv;have i0:l.length <= m.length:=by omega
 have HLEN:=hid hlen; clear hlen;go_enter Tryz.func117,Tryz.ntmps117;go_wp2
 go_loopw [5] (fun i wr=>∃ k:Nat,k <= l.length /\ i=.int .i64 k /\ Q5y (l.drop k) (m.drop k)=Q5y l m /\ Ext w wr) (fun i _=>l.length - (intOf i).toNat)
 case atStart=>exact ⟨0,Nat.zero_le _,rfl,rfl,Ext.refl _⟩
 case round =>
  obtain ⟨k,hk,rfl,hr,hx⟩:=hrel;have HR:=hid hr; clear hr
  by_cases hlt:k < l.length
  . obtain ⟨b,off,rfl,hcell⟩:=hc k hlt
    obtain ⟨b',off',rfl,hcell'⟩:=hc' k (by omega)
    replace hcell:=hx.cell hcell;replace hcell':=hx.cell hcell';clear hc hc';have i1:(k:Int) < l.length:=by omega
    have i2:(k:Int) < m.length:=by omega
    have hst:=J6s hlt (show k < m.length by omega)
    have HST:=hid hst; clear hst
    by_cases hx0:ix l k=ix m k
    . have hx1:(ix l k != ix m k)=false:=by simp [hx0]
      have HX:=hid hx0; clear hx0;go_wp2
      go_quiet (fail)
      all_goals go_wp2
      go_roundw
      case rel=>exact ⟨k + 1,by omega,by go_num,by rw [<- HR.out,HST.out,if_pos HX.out],hx.drewN _⟩
      case measure=>simp [intOf]; omega
    . have hx1:(ix l k != ix m k)=true:=by simp [hx0]
      have HX:=hid hx0; clear hx0;go_wp2
      go_quiet (fail)
      all_goals go_wp2
      go_quiet (fail)
      all_goals go_wp2
      go_ret;exact ⟨Q0u (by rw [<- HR.out,HST.out,if_neg HX.out]),(hx.drewN _).drewN _⟩
  . clear hc hc'
    go_wp2;go_ret;exact ⟨Q0u (by rw [<- HR.out,List.drop_eq_nil_of_le (by omega)]; rfl),hx⟩
end Go.Proofs
namespace Go.Proofs
open Go.RowKit Go.Tw Go.Flow
theorem J5t (w:World) (v u:Value) (s:Q0b) (i:Nat) (l:List Bool) (hv:Q0h w v s) (him:i < s.members.length) (hu:Q1q w u l) (hl9:l.length <= 9) (hlo:l.length <= (Q2e s i).outside.length) (hli:l.length <= (Q2e s i).inflow.length)
    (hb:∀ x ∈ (Q2e s i).inflow,0 <= x /\ x <= 1024) :
    Calls Tryz.prog 51 #[v,.int .i64 (i:Int),u] w fun e w'=>∃ x,e=.returned x /\ Q0d w' x ((Q2e s i).X3n l) /\ Ext w w':=by
 obtain ⟨i0,hi,hz0,hz1,hz2⟩:=info_parts Tryz.info3;obtain ⟨a,b,rfl,h2⟩:=hv;obtain ⟨A,capa,rfl,hla,-,-⟩:=h2.ships.opened;obtain ⟨B,capb,rfl,hlb,-,hc⟩:=h2.members.opened;obtain ⟨bm,off,x,y,z,rfl,hbm,e0,e1,e2,e3,e4,hx,hy,hz,-⟩:=hc i him;have eY:Q0t s.members i=(Q2e s i).outside:=rfl;have eZ:Q0y s.members i=(Q2e s i).inflow:=rfl;rw [eY] at hy;rw [eZ] at hz;obtain ⟨X,capx,rfl,-,-,-⟩:=hx.opened;obtain ⟨Y,capy,rfl,-,-,hcY⟩:=hy.opened;obtain ⟨Z,capz,rfl,-,-,hcZ⟩:=hz.opened;obtain ⟨U,capu,rfl,-,-,hcU⟩:=hu.opened;have hiI:(i:Int) < s.members.length:=by omega
 obtain ⟨m,hm⟩:∃ x,Q2e s i=x:=⟨_,rfl⟩;rw [hm] at hlo hli hb hcY hcZ hy hz e3 e4 ⊢;have HCY:=hid hcY;have HCZ:=hid hcZ;have HCU:=hid hcU;have HBD:Hid (∀ k,k < m.inflow.length -> 0 <= ix m.inflow k /\ ix m.inflow k <= 1024):=hid (fun k hk=>by rw [Q4s hk]; exact hb _ (List.getElem_mem hk))
 obtain ⟨nm,hnm⟩:∃ x,Q1h s.members i=x:=⟨_,rfl⟩;obtain ⟨wt,hwt⟩:∃ x,Q0i s.members i=x:=⟨_,rfl⟩;obtain ⟨lc,hlc⟩:∃ x,(Q0c s.members i).length=x:=⟨_,rfl⟩;rw [hnm] at e0;rw [hwt] at e1;rw [hlc] at e2;clear hc hx hy hz hcY hcZ hcU hu h2 hm hb hnm hwt hlc eY eZ;go_enter Tryz.func51,Tryz.ntmps51;go_wp2_with fail;change Code.wp _ _ _ _ ((w.alloc (.cells #[.int .i64 s.limit,.slice A s.ships.length capa,.slice (some ⟨bm,off,none⟩) s.members.length capb] 25)).alloc (.cells #[.string nm,.int .i64 wt,.slice X lc capx,.slice Y m.outside.length capy,.slice Z m.inflow.length capz] 68));obtain ⟨W,hWW,k0,k1,HXW,eW⟩:=Q4e w 25 #[.int .i64 s.limit,.slice A s.ships.length capa,.slice (some ⟨bm,off,none⟩) s.members.length capb] 68 #[.string nm,.int .i64 wt,.slice X lc capx,.slice Y m.outside.length capy,.slice Z m.inflow.length capz];rw [hWW];clear hWW;have K1:=hid k1;clear k0 k1 e0 e1 e2 e3 e4 eW
 go_loopw [8,9,10] (fun lv o t wr=>∃ (k:Nat) (n:Int) (pk:List Int),k <= l.length /\ t=.int .i64 k /\ lv=.int .i64 n /\ (0 <= n /\ n <= 1024 * k) /\ pk.length=k /\ pk ++ m.Q3e k n (l.drop k)=m.X3n l /\ Q0q wr W.heap.size 3 (.int .i64) o pk /\ Ext W wr) (fun _ _ t _=>l.length - (intOf t).toNat)
 case atStart=>exact ⟨0,0,[],Nat.zero_le _,rfl,rfl,⟨Int.le_refl _,by omega⟩,rfl,rfl,Q0q.nil _ _ _ _,Ext.refl _⟩
 case round =>
  obtain ⟨k,n,pk,hk,rfl,rfl,⟨hn0,hn1⟩,hpk,hr,hown,hx⟩:=hrel;have HR:=hid hr;clear hr
  by_cases hlt:k < l.length
  . obtain ⟨bu,ou,hU,_,hcu⟩:=HCU.out k hlt
    obtain ⟨by',oy,hY,hcy⟩:=HCY.out k (by omega)
    obtain ⟨bz,oz,hZ,hcz⟩:=HCZ.out k (by omega)
    subst hU hY hZ;have hbd:=HBD.out k (by omega)
    have hst:=Z0u m l hlt n;replace hcu:=(HXW.out.trans hx).cell hcu;replace hcy:=(HXW.out.trans hx).cell hcy;replace hcz:=(HXW.out.trans hx).cell hcz;have k1:=K1.out.ext hx;have c3:=k1.cell 3;have c4:=k1.cell 4;simp only [Go.Tw.gA,Go.Tw.gB,Go.Tw.gC] at c3 c4;have hkI:(k:Int) < l.length:=by omega
    have hkY:(k:Int) < m.outside.length:=by omega
    have hkZ:(k:Int) < m.inflow.length:=by omega
    clear k1;cases hq:bx l k with
    | true =>
      rw [hq] at hcu hst;obtain ⟨x,hxv⟩:∃ x,ix m.inflow k=x:=⟨_,rfl⟩;have hst2:m.Q3e k n (l.drop k)=(n + x) :: m.Q3e (k + 1) (n + x) (l.drop (k + 1)):=by rw [hst,<- hxv]; rfl
      rw [hxv] at hcz hbd;have hwr:IntKind.i64.wrap (n + x)=n + x:=Q2v _ (by omega) (by omega)
      have HS:=hid hst2;have HB2:Hid (0 <= n + x /\ n + x <= 1024 * ((k + 1:Nat):Int)):=hid (by omega)
      clear hq hst hst2 hxv
      go_light
      go_wp2_with (at_builtin; refine wpList_append_own _ rfl _ _ 22 rfl (W.heap.size) 3 i0 (.int .i64 0) 1 8 Tryz.underlying22 hi hz0 hz1 hz2 rfl (by decide) _ _ _ rfl (World.ownsRow.alloc hown _) ⟨wr.heap.size,0,none⟩ 1 1 [.int .i64 (n + x)] rfl rfl ?_ ?_ ?_ ?_ ?_ ?_; exact Q4p _ _ _; (focus (simp [Value.oneCell'])); (focus (unfold maxLen; omega)); (focus omega); (focus (have:=hx.size; simp at this ⊢; omega)); intro v' w1 hown' hgrow _)
      have hx2:=Q2w hx hown (Nat.le_refl _) hgrow;go_roundw
      case rel=>exact ⟨k + 1,n + x,pk ++ [n + x],by omega,by go_num,rfl,HB2.out,by simp [hpk],by rw [<- HR.out,HS.out]; simp,Q0q.snoc hown',hx2⟩
      case measure=>simp [intOf]; omega
    | false =>
      rw [hq] at hcu hst;obtain ⟨x,hxv⟩:∃ x,ix m.outside k=x:=⟨_,rfl⟩;have hst2:m.Q3e k n (l.drop k)=x :: m.Q3e (k + 1) 0 (l.drop (k + 1)):=by rw [hst,<- hxv]; rfl
      rw [hxv] at hcy;have HS:=hid hst2;clear hq hst hst2 hxv hbd
      go_light
      go_wp2_with (at_builtin; refine wpList_append_own _ rfl _ _ 22 rfl (W.heap.size) 3 i0 (.int .i64 0) 1 8 Tryz.underlying22 hi hz0 hz1 hz2 rfl (by decide) _ _ _ rfl (World.ownsRow.alloc hown _) ⟨wr.heap.size,0,none⟩ 1 1 [.int .i64 x] rfl rfl ?_ ?_ ?_ ?_ ?_ ?_; exact Q4p _ _ _; (focus (simp [Value.oneCell'])); (focus (unfold maxLen; omega)); (focus omega); (focus (have:=hx.size; simp at this ⊢; omega)); intro v' w1 hown' hgrow _)
      have hx2:=Q2w hx hown (Nat.le_refl _) hgrow;go_roundw
      case rel=>exact ⟨k + 1,0,pk ++ [x],by omega,by go_num,rfl,⟨Int.le_refl _,by omega⟩,by simp [hpk],by rw [<- HR.out,HS.out]; simp,Q0q.snoc hown',hx2⟩
      case measure=>simp [intOf]; omega
  . have hkI:¬ (k:Int) < l.length:=by omega
    have HF:Hid (pk=m.X3n l):=hid (by rw [<- HR.out,List.drop_eq_nil_of_le (by omega)]; simp [Mem.Q3e])
    go_wp2;go_ret;exact ⟨_,rfl,by rw [<- HF.out]; exact hown.ints (by omega),HXW.out.trans hx⟩
end Go.Proofs
namespace Go.Tw
def J2k (p:List Rul) (h:List Int):List Bool:=(p.filter fun r=>r.classes == h).map Rul.close
def J2t (p:List Rul) (l:List Int) (n:Nat):List Bool:=(List.range n).flatMap fun t=>J2k p (l.take (t + 1))
theorem J3d:∀ {p:List Rul} {h:List Int},h ∉ p.map Rul.classes -> J2k p h=[]
 | [],_,_=>rfl
 | r :: p,h,hm=>by
   unfold J2k;rw [List.map_cons,List.mem_cons,not_or] at hm;rw [List.filter_cons,if_neg (by simpa using fun e=>hm.1 e.symm)]
   exact J3d hm.2
theorem J3r:∀ {p:List Rul} {h:List Int},(p.map Rul.classes).Nodup -> h ∈ p.map Rul.classes -> J2k p h=[look p h]
 | [],_,_,hm=>by cases hm
 | r :: p,h,hn,hm=>by
   rw [List.map_cons,List.nodup_cons] at hn
   by_cases hr:r.classes=h
   . subst hr
     have h0:=J3d hn.1;unfold J2k look at *;rw [List.filter_cons,if_pos (by simp),List.map_cons,h0,List.find?_cons]
     simp
   . rw [List.map_cons,List.mem_cons] at hm
     have hm':h ∈ p.map Rul.classes:=hm.resolve_left fun e=>hr e.symm;have ih:=J3r hn.2 hm';unfold J2k look at *;rw [List.filter_cons,if_neg (by simpa using hr),ih,List.find?_cons]
     have:(r.classes == h)=false:=by simpa using hr
     rw [this]
theorem J7c {s:Q0b} (hs:s.Shaped) {p:List Rul} (hp:Q2d s.hist p=0) {i:Nat} (hi:i < s.members.length) (hl:(Q0c s.members i).length=s.ships.length):J2t p (Q0c s.members i) s.ships.length=Q0m p (Q0c s.members i):=by
 have he:=Q4h.1 hp;have hn:(p.map Rul.classes).Nodup:=by rw [he]; exact Z1a (Q0b.Y7u hs)
 unfold J2t Q0m;rw [hl];have:∀ l:List Nat,(∀ t ∈ l,t < s.ships.length) -> (l.flatMap fun t=>J2k p ((Q0c s.members i).take (t + 1)))=l.map fun t=>look p ((Q0c s.members i).take (t + 1)):=by
  intro l
  induction l with
  | nil=>intro _; rfl
  | cons t l ih =>
    intro ht;rw [List.flatMap_cons,List.map_cons,ih fun u hu=>ht u (List.mem_cons_of_mem _ hu),J3r hn]
    . rfl
    . rw [he]
      exact (Q0b.Q4n _ _).2 ⟨t,ht t (List.mem_cons_self ..),i,hi,rfl⟩
 exact this _ fun t ht=>List.mem_range.1 ht
end Go.Tw
namespace Go.Proofs
open Go.RowKit Go.Tw Go.Flow
attribute [local go_sem] Oper.semAt_some
theorem J4w (p:List Rul) (l:List Int) (t:Nat):J2t p l (t + 1)=J2t p l t ++ J2k p (l.take (t + 1)):=by
 unfold J2t;rw [List.range_succ,List.flatMap_append];simp
theorem J5q (p:List Rul) (h:List Int) {j:Nat} (hj:j < p.length):J2k (p.take (j + 1)) h=if Q0n p j=h then J2k (p.take j) h ++ [Q3p p j] else J2k (p.take j) h:=by
 unfold J2k Q0n Q3p;rw [List.take_succ_eq_append_getElem hj,List.filter_append,List.map_append,Q0v _ hj]
 by_cases h1:p[j].classes=h
 . rw [if_pos h1]; simp [h1]
 . rw [if_neg h1]; simp [h1]
theorem J3n (p:List Rul) (h:List Int):(J2k p h).length <= p.length:=by
 unfold J2k;rw [List.length_map];exact List.length_filter_le _ _
theorem J4k (p:List Rul) (l:List Int):∀ t,(J2t p l t).length <= t * p.length
 | 0=>by simp [J2t]
 | t + 1=>by
   rw [J4w,List.length_append,Nat.add_mul,Nat.one_mul];have:=J4k p l t;have:=J3n p (l.take (t + 1));omega
theorem J5c (w:World) (v u:Value) (s:Q0b) (p:List Rul) (i:Nat) (hv:Q0h w v s) (hu:Q0w w u p) (him:i < s.members.length) (hl:(Q0c s.members i).length=s.ships.length) (ht:s.ships.length <= 8) (hp:p.length <= 100) :
    Calls Tryz.prog 106 #[v,u,.int .i64 (i:Int)] w fun e w'=>∃ x,e=.returned x /\ Q1q w' x (J2t p (Q0c s.members i) s.ships.length) /\ Ext w w':=by
 obtain ⟨i0,hi,hz0,hz1,hz2⟩:=info_parts Tryz.Y8e;obtain ⟨a,b,rfl,h2⟩:=hv;obtain ⟨rv,rfl,hr⟩:=hu;obtain ⟨A,capa,rfl,hla,-,-⟩:=h2.ships.opened;obtain ⟨B,capb,rfl,hlb,-,hc⟩:=h2.members.opened;obtain ⟨R,capr,rfl,hlr,-,hcr⟩:=hr.opened;obtain ⟨bm,off,x,y,z,rfl,hbm,e0,e1,e2,e3,e4,hx,hy,hz,-⟩:=hc i him;obtain ⟨C,capc,rfl,-,hcapc,hcC⟩:=hx.opened;have HCR:=hid hcr;have HXI:=hid hx;have HE2:=hid e2;have hiI:(i:Int) < s.members.length:=by omega
 rw [hl] at hcapc;have HCX:=hid hcC;obtain ⟨lc,hlc⟩:∃ x,Q0c s.members i=x:=⟨_,rfl⟩;rw [hlc] at hl HXI HE2 HCX ⊢;rw [hl] at HE2;have HLEN:=hid hl;clear hc hx hy hz hcC hcr hr h2 hlc e0 e1 e2 e3 e4 hl;go_enter Tryz.func106,Tryz.ntmps106;go_wp2_with fail;change Code.wp _ _ _ _ ((w.alloc (.cells #[.int .i64 s.limit,.slice A s.ships.length capa,.slice (some ⟨bm,off,none⟩) s.members.length capb] 25)).alloc (.cells #[.slice R p.length capr] 47));obtain ⟨W,hWW,k0,k1,HXW,eW⟩:=Q4e w 25 #[.int .i64 s.limit,.slice A s.ships.length capa,.slice (some ⟨bm,off,none⟩) s.members.length capb] 47 #[.slice R p.length capr];rw [hWW];clear hWW;have K0:=hid k0;have K1:=hid k1;obtain ⟨gs,hgs⟩:∃ x,w.heap.size=x:=⟨_,rfl⟩;rw [hgs] at K0 K1 eW ⊢;clear k0 k1
 go_loopw [7,8] (fun o t wr=>∃ (k:Nat),k <= s.ships.length /\ t=.int .i64 k /\ Q0q wr W.heap.size 4 .bool o (J2t p lc k) /\ Ext W wr) (fun _ t _=>s.ships.length - (intOf t).toNat)
 case atStart=>exact ⟨0,Nat.zero_le _,rfl,Q0q.nil _ _ _ _,Ext.refl _⟩
 case round =>
  obtain ⟨k,hk,rfl,hown,hxk⟩:=hrel;have c1:=(K0.out.ext hxk).cell 1;simp only [Go.Tw.gA,Go.Tw.gB,Go.Tw.gC] at c1;have HXK:=hid hxk;have HOW:=hid hown;clear hxk hown
  by_cases hlt:k < s.ships.length
  . have hkI:(k:Int) < s.ships.length:=by omega
    obtain ⟨bc,oc,hCe,_⟩:=HCX.out k (by rw [HLEN.out]; exact hlt)
    subst hCe
    go_light
    go_wp2_with fail
    go_loopw [7,9] (fun o j wr=>∃ (m:Nat),m <= p.length /\ j=.int .i64 m /\ Q0q wr W.heap.size 4 .bool o (J2t p lc k ++ J2k (p.take m) (lc.take (k + 1))) /\ Ext W wr) (fun _ j _=>p.length - (intOf j).toNat)
    case atStart=>exact ⟨0,Nat.zero_le _,rfl,by rw [List.take_zero,show J2k [] (lc.take (k + 1))=[] from rfl,List.append_nil]; exact HOW.out,HXK.out⟩
    case round =>
     obtain ⟨m,hm,rfl,hown,hxr⟩:=hrel;have p0:=(K1.out.ext hxr).cell 0;simp only [Go.Tw.gA,Go.Tw.gB,Go.Tw.gC] at p0;have HXR:=hid hxr;have HOR:=hid hown;clear hxr hown
     by_cases hml:m < p.length
     . obtain ⟨br,orr,xr,hR,_,hx0,hx1,hxi⟩:=HCR.out m hml
       subst hR;have hmI:(m:Int) < p.length:=by omega
       obtain ⟨Xr,cxr,rfl,-,-,-⟩:=hxi.opened;have hsuc:=J5q p (lc.take (k + 1)) hml;obtain ⟨cl,hcl⟩:∃ x,Q0n p m=x:=⟨_,rfl⟩;obtain ⟨cb,hcb⟩:∃ x,Q3p p m=x:=⟨_,rfl⟩;rw [hcl] at hx0 hxi hsuc;rw [hcb] at hx1 hsuc;have HCLS:=hid hxi;have HSUC:=hid hsuc;obtain ⟨hk1,hhk⟩:∃ x,lc.take (k + 1)=x:=⟨_,rfl⟩;have HPRE:Hid (Q0d w (.slice (some ⟨bc,oc,none⟩) (k + 1) capc) hk1):=hid (by rw [<- hhk]; rw [show (Value.slice (some ⟨bc,oc,none⟩) (k + 1) capc)=.slice (some ⟨bc,oc,none⟩) (k + 1) capc from rfl]; exact X6b HXI.out (by rw [HLEN.out]; omega))
       rw [hhk] at HSUC HOR ⊢;obtain ⟨q,hq⟩:∃ q,decide (cl=hk1)=q:=⟨_,rfl⟩;have HQ:=hid hq;have hkc:k + 1 <= capc:=by omega
       have hkcI:(k:Int) + 1 <= (capc:Int):=by omega
       have hkc1:¬ ((0:Int) <= (k:Int) + 1 -> (capc:Int) < (k:Int) + 1):=by omega
       have hkc2:¬ capc=0:=by omega
       have hkc4:¬ (k:Int) + 1 < 0:=by omega
       have hkc3:((k:Int) + 1).toNat=k + 1:=by omega
       have hwk:IntKind.i64.wrap ((k:Int) + 1)=(k:Int) + 1:=Q2v _ (by omega) (by omega)
       have hdr:=(Ext.refl wr).drew;have HX0:=hid hx0;have HX1:=hid hx1;clear hx0 hx1 hxi hsuc hcl hcb hhk hq;have HE3:=hid HE2.out
       go_light
       go_wp2;refine Flow.Q1o [.p,.w,.p,.p,.p,.w,.p,.w,.p,.p,.p,.w,.p,.p,.p,.w] [0,1,2,3,4,5,6,7,8,9,10,11,12,13,14,15] [[],[0],[],[1,2],[3],[4],[],[6],[],[7,8],[9],[10],[],[12],[11,13],[5,14]]
        [.c 0 (.pointer (some ⟨gs + 1,0,none⟩)),.c 1 (.slice (some ⟨br,orr,none⟩) p.length capr),.c 2 (.int .i64 (m:Int)),.c 3 (.pointer (some ⟨br,orr + m * 2,none⟩)),.c 4 (.pointer (some ⟨br,orr + m * 2,none⟩)),.c 5 (.slice Xr cl.length cxr),.c 6 (.pointer (some ⟨gs,2,none⟩)),.c 7 (.slice (some ⟨bm,off,none⟩) s.members.length capb),.c 8 (.int .i64 (i:Int)),.c 9 (.pointer (some ⟨bm,off + i * 5,none⟩)),.c 10 (.pointer (some ⟨bm,off + i * 5 + 2,none⟩)),.c 11 (.slice (some ⟨bc,oc,none⟩) s.ships.length capc),.c 12 (.int .i64 (k:Int)),.c 13 (.int .i64 ((k:Int) + 1)),.c 14 (.slice (some ⟨bc,oc,none⟩) (k + 1) capc),.c 15 (.bool q)]
        (by kernel_rfl) rfl (by kernel_rfl) ⟨?g0,?g1,?g2,?g3,?g4,?g5,?g6,?g7,?g8,?g9,?g10,?g11,?g12,?g13,?g14,?g15,trivial⟩ ?post
       case g0 | g2 | g6 | g8 | g12=>
        intro v w1 hx;intro bb hbb;subst hbb;refine ⟨_,fun w=>?_,rfl⟩;go_simp
       case g1 | g5 | g7 | g11=>
        intro v w1 hx;(repeat intro (zq:v _=_));intro bb hbb;subst hbb;have n0:w1.cell? ⟨gs + 1,0,none⟩=some (.slice (some ⟨br,orr,none⟩) p.length capr):=(K1.out.ext (HXR.out.trans (hdr.trans hx))).cell 0;have n1:w1.cell? ⟨br,orr + m * 2,none⟩=some (.slice Xr cl.length cxr):=(HXW.out.trans (HXR.out.trans (hdr.trans hx))).cell HX0.out;have n2:w1.cell? ⟨gs,2,none⟩=some (.slice (some ⟨bm,off,none⟩) s.members.length capb):=(K0.out.ext (HXR.out.trans (hdr.trans hx))).cell 2;have n3:w1.cell? ⟨bm,off + i * 5 + 2,none⟩=some (.slice (some ⟨bc,oc,none⟩) s.ships.length capc):=(HXW.out.trans (HXR.out.trans (hdr.trans hx))).cell HE3.out;intro K hK;go_simp;exact hK _ _ (Ext.refl _) rfl
       case g3 | g4 | g9 | g10 | g13 | g14=>
        intro v w1 hx;(repeat intro (zq:v _=_));intro bb hbb;subst hbb;refine ⟨_,fun w=>?_,rfl⟩;go_simp
       case g15=>
        intro v w1 hx;(repeat intro (zq:v _=_));intro bb hbb;subst hbb;intro K hK;go_simp;refine Q0e (Q8i w1 _ _ cl hk1 (HCLS.out.ext (HXW.out.trans (HXR.out.trans (hdr.trans hx)))) (HPRE.out.ext (HXW.out.trans (HXR.out.trans (hdr.trans hx))))) ?_;rintro e w2 ⟨rfl,hx2⟩;rw [HQ.out];exact ⟨_,rfl,hK _ _ hx2 rfl⟩
       case post =>
        intro v w1 hx;(iterate 16 intro (zq:v _=_));simp only [Flow.All,Flow.acts,Act.put];go_simp;have hxx:=HXR.out.trans (hdr.trans hx);have hown:=HOR.out.below (hdr.trans hx);have pp0:=(K1.out.ext hxx).cell 0;simp only [Go.Tw.gA,Go.Tw.gB,Go.Tw.gC] at pp0;have hcb:=(HXW.out.trans hxx).cell HX1.out;have HXX:=hid hxx;clear hx hdr hkc1 hkc2 hkc3 hkc4 hkcI hwk p0;(repeat clear zq);obtain ⟨w3,rfl⟩:∃ X,X=w1:=⟨_,rfl⟩;cases q with
        | true =>
          have hqe:cl=hk1:=of_decide_eq_true HQ.out;have HST:Hid (J2t p lc k ++ J2k (p.take (m + 1)) hk1=J2t p lc k ++ J2k (p.take m) hk1 ++ [cb]):=hid (by rw [HSUC.out,if_pos hqe,List.append_assoc])
          have hlen1:=J4k p lc k;have hlen2:k * p.length <= 8 * 100:=Nat.mul_le_mul (by omega) hp
          have hlen3:=J3n (p.take m) hk1;have hlen4:(p.take m).length <= m:=by rw [List.length_take]; omega
          have hll:(J2t p lc k ++ J2k (p.take m) hk1).length <= 4096:=by rw [List.length_append]; omega
          have HOW3:=hid hown;have hx3:=HXX.out;clear hqe hlen1 hlen2 hlen3 hlen4;go_wp2_with (at_builtin; refine wpList_append_own _ rfl _ _ 82 rfl (W.heap.size) 4 i0 (.bool false) 1 1 Tryz.underlying82 hi hz0 hz1 hz2 rfl (by decide) _ _ _ rfl (World.ownsRow.alloc hown _) ⟨w3.heap.size,0,none⟩ 1 1 [.bool cb] rfl rfl ?_ ?_ ?_ ?_ ?_ ?_; exact Q4p _ _ _; (focus (simp [Value.oneCell'])); (focus (unfold maxLen; omega)); (focus omega); (focus (have:=hx3.size; simp at this ⊢; omega)); intro v' w1 hown' hgrow _)
          have hx':=Q2w hx3 HOW3.out (Nat.le_refl _) hgrow;go_roundw
          case rel=>exact ⟨m + 1,by omega,by go_num,by rw [HST.out]; exact Q0q.snoc hown',hx'⟩
          case measure=>simp [intOf]; omega
        | false =>
          have hqe:¬ cl=hk1:=of_decide_eq_false HQ.out;have HST:Hid (J2k (p.take (m + 1)) hk1=J2k (p.take m) hk1):=hid (by rw [HSUC.out,if_neg hqe])
          have HOW3:=hid hown;clear hqe hown;go_wp2;go_roundw
          case rel=>exact ⟨m + 1,by omega,by go_num,by rw [HST.out]; exact HOW3.out,HXX.out⟩
          case measure=>simp [intOf]; omega
     . have hmI:¬ (m:Int) < p.length:=by omega
       have hme:m=p.length:=by omega
       subst hme;have HNX:Hid (J2t p lc k ++ J2k (p.take p.length) (lc.take (k + 1))=J2t p lc (k + 1)):=hid (by rw [List.take_length,J4w])
       go_wp2;go_roundw
       case rel=>exact ⟨k + 1,by omega,by go_num,by rw [<- HNX.out]; exact HOR.out,HXR.out⟩
       case measure=>simp [intOf]; omega
  . have hkI:¬ (k:Int) < s.ships.length:=by omega
    have hke:k=s.ships.length:=by omega
    subst hke;go_wp2;go_ret;exact ⟨_,rfl,HOW.out.bools (by have:=J4k p lc s.ships.length; have:s.ships.length * p.length <= 8 * 100:=Nat.mul_le_mul ht hp; omega),HXW.out.trans HXK.out⟩
end Go.Proofs
namespace Go.Proofs
open Go.RowKit Go.Tw Go.Flow
theorem J5x {s:Q0b} (hS:Q1b s) {p:List Rul} (hp:Q2d s.hist p=0):p.length <= 48:=by
 have:=Z5n hS;rw [<- Q4h.1 hp,List.length_map] at this;exact this
theorem Tryz.J6p (w:World):(isAgg 25).run Tryz.prog w=.ok true w:=by kernel_rfl
theorem Tryz.J5s (w:World):(sizeOf 25).run Tryz.prog w=.ok 3 w:=by kernel_rfl
theorem Tryz.J7l (w:World):(isAgg 99).run Tryz.prog w=.ok true w:=by kernel_rfl
theorem Tryz.J5f (w:World):(sizeOf 99).run Tryz.prog w=.ok 2 w:=by kernel_rfl
theorem J5o {w w':World} {g b k:Nat} {T:TypeId} {cs:Array Value} {x:Value} (hb:Blk w g T cs) (hx:∀ u ∈ cs.toList,u ≠ x) (ho:∀ k,k ≠ g -> w'.heap[k]?=w.heap[k]?) (h:w.cell? ⟨b,k,none⟩=some x):w'.cell? ⟨b,k,none⟩=some x:=by
 by_cases hbg:b=g
 . subst hbg
   rw [hb.cell] at h;have hm:x ∈ cs:=Array.mem_of_getElem? h;exact absurd rfl (hx x (Array.mem_toList_iff.2 hm))
 . rw [<- h]
   exact World.cell?_of_block (w:=w) (ho b hbg)
theorem J6b {w w':World} {v:Value} {l:List Bool} {g:Nat} {T:TypeId} {cs:Array Value} (h:Q1q w v l) (hb:Blk w g T cs) (hx:∀ u ∈ cs.toList,∀ b,u ≠ .bool b) (ho:∀ k,k ≠ g -> w'.heap[k]?=w.heap[k]?):Q1q w' v l:=by
 obtain ⟨c,⟨A,cap,hv,hn,hcap,hc⟩,h2⟩:=h;refine ⟨c,⟨A,cap,hv,hn,hcap,fun j hj=>?_⟩,h2⟩;obtain ⟨b,off,hA,h⟩:=hc j hj;refine ⟨b,off,hA,?_⟩;have e:=h2 j (by omega)
 simp only [Nat.mul_one,Nat.add_zero] at e;rw [e] at h ⊢;exact J5o hb (fun u hu=>hx u hu _) ho h
theorem J6k {w w':World} {v:Value} {l:List Int} {g:Nat} {T:TypeId} {cs:Array Value} (h:Q0d w v l) (hb:Blk w g T cs) (hx:∀ u ∈ cs.toList,∀ b,u ≠ .int .i64 b) (ho:∀ k,k ≠ g -> w'.heap[k]?=w.heap[k]?):Q0d w' v l:=by
 obtain ⟨c,⟨A,cap,hv,hn,hcap,hc⟩,h2⟩:=h;refine ⟨c,⟨A,cap,hv,hn,hcap,fun j hj=>?_⟩,h2⟩;obtain ⟨b,off,hA,h⟩:=hc j hj;refine ⟨b,off,hA,?_⟩;have e:=h2 j (by omega)
 simp only [Nat.mul_one,Nat.add_zero] at e;rw [e] at h ⊢;exact J5o hb (fun u hu=>hx u hu _) ho h
attribute [local go_sem ↓] X3l
theorem J5p (w:World) (v u:Value) (s:Q0b) (p:List Rul) (i:Nat) (hv:Q0h w v s) (hu:Q0w w u p) (hS:Q1b s) (hp:Q2d s.hist p=0) (him:i < s.members.length) :
    Calls Tryz.prog 106 #[v,u,.int .i64 (i:Int)] w fun e w'=>∃ x,e=.returned x /\ Q1q w' x (Q0m p (Q0c s.members i)) /\ Ext w w':=by
 have hl:=(hS.shaped i him).1;have h:=J5c w v u s p i hv hu him hl (by have:=hS.tides.2; omega) (by have:=J5x hS hp; omega)
 rw [J7c hS.shaped hp him hl] at h;exact h
theorem J5n (w:World) (v u:Value) (s:Q0b) (p:List Rul) (i:Nat) (hv:Q0h w v s) (hu:Q0w w u p) (hS:Q1b s) (hp:Q2d s.hist p=0) (him:i < s.members.length) :
    Calls Tryz.prog 60 #[v,u,.int .i64 (i:Int)] w fun e w'=>∃ x y,e=.returned (.agg #[x,y]) /\ Q1q w' x (Q0m p (Q0c s.members i)) /\ Q0d w' y ((Q2e s i).X3n (Q0m p (Q0c s.members i))) /\ Ext w w':=by
 have hlen:=Q2n p (Q0c s.members i);have hsh:=hS.shaped i him;have h6:=hS.tides.2;have HC1:Hid (∀ (w:World) (v u:Value),Q0h w v s -> Q0w w u p -> Calls Tryz.prog 106 #[v,u,.int .i64 (i:Int)] w fun e w'=>∃ x,e=.returned x /\ Q1q w' x (Q0m p (Q0c s.members i)) /\ Ext w w'):=hid (fun w v u h1 h2=>J5p w v u s p i h1 h2 hS hp him);have HF1:Hid (∀ (w:World) (v u:Value),Q0h w v s -> Q1q w u (Q0m p (Q0c s.members i)) -> Calls Tryz.prog 51 #[v,.int .i64 (i:Int),u] w fun e w'=>∃ x,e=.returned x /\ Q0d w' x ((Q2e s i).X3n (Q0m p (Q0c s.members i))) /\ Ext w w'):=hid (fun w v u h1 h2=>J5t w v u s i _ h1 him h2 (by omega) (by rw [hlen,hsh.1]; exact Nat.le_of_eq hsh.2.1.symm) (by rw [hlen,hsh.1]; exact Nat.le_of_eq hsh.2.2.symm) (hS.inflow i him))
 obtain ⟨a,b,rfl,h2⟩:=hv;obtain ⟨rv,rfl,hr⟩:=hu;obtain ⟨A,capa,rfl,-,-,-⟩:=h2.ships.opened;obtain ⟨B,capb,rfl,-,-,-⟩:=h2.members.opened;obtain ⟨R,capr,rfl,-,-,-⟩:=hr.opened;have H2:=hid h2;have HR:=hid hr;obtain ⟨cl,hcl⟩:∃ x,Q0m p (Q0c s.members i)=x:=⟨_,rfl⟩;obtain ⟨pk,hpk⟩:∃ x,(Q2e s i).X3n (Q0m p (Q0c s.members i))=x:=⟨_,rfl⟩;rw [hpk] at HF1 ⊢;rw [hcl] at HF1 HC1 ⊢;clear h2 hr hlen hsh h6 hcl hpk hS hp;go_enter Tryz.func60,Tryz.ntmps60;go_wp2_with fail;change Calls _ _ _ (((w.alloc (.cells #[.int .i64 s.limit,.slice A s.ships.length capa,.slice B s.members.length capb] 25)).alloc (.cells #[.slice R p.length capr] 47)).alloc (.cells #[.slice none 0 0,.slice none 0 0] 99)) _;obtain ⟨W,hWW,k0,k1,k2,HXW,eW⟩:=X2z w 25 #[.int .i64 s.limit,.slice A s.ships.length capa,.slice B s.members.length capb] 47 #[.slice R p.length capr] 99 #[.slice none 0 0,.slice none 0 0];rw [hWW];clear hWW;have K2:=hid k2;have HXX:=hid HXW.out;refine (HC1.out _ _ _ ⟨_,_,rfl,H2.out.ext HXW.out⟩ ⟨_,rfl,HR.out.ext HXW.out⟩).mono ?_;rintro e w1 ⟨x,rfl,hx,hx1⟩;obtain ⟨X,cx,rfl,-,-,-⟩:=hx.opened;have HCL:=hid hx;have HX1:=hid (HXX.out.trans hx1);have kk:=k0.ext hx1;have c0:=kk.cell 0;have c1:=kk.cell 1;have c2:=kk.cell 2;simp only [Go.Tw.gA,Go.Tw.gB,Go.Tw.gC] at c0 c1 c2;replace K2:=hid (K2.out.ext hx1);clear hx hx1 kk k0 k1 k2;go_wp2_with fail;refine (HF1.out _ _ _ ⟨_,_,rfl,H2.out.ext HX1.out⟩ HCL.out).mono ?_;rintro e w2 ⟨y,rfl,hy,hx2⟩;obtain ⟨Y,cy,rfl,-,-,-⟩:=hy.opened;have HPK:=hid hy;replace HCL:=hid (HCL.out.ext hx2);replace K2:=hid (K2.out.ext hx2);have HX2:=hid (HX1.out.trans hx2);have hgl:w.heap.size + 1 + 1 ≥ w.heap.size:=by omega
 clear hy hx2 c0 c1 c2;go_wp2_with (refine Q0s rfl _ _ 99 rfl Tryz.J5f rfl rfl K2.out rfl rfl ?_ ?_; (focus (intro u hu; simp only [List.mem_cons,List.not_mem_nil,or_false] at hu; rcases hu with rfl | rfl <;> rfl)); intro w9 hb9 hl9 ho9)
 refine bodyPost_ret (Q1v Tryz.results60 rfl hb9 Tryz.J7l Tryz.J5f) rfl ?_;have hne:∀ u ∈ (#[Value.slice none 0 0,Value.slice none 0 0]:Array Value).toList,∃ a n c,u=.slice a n c:=by
  intro u hu;simp only [List.mem_cons,List.not_mem_nil,or_false] at hu
  rcases hu with rfl | rfl <;> exact ⟨_,_,_,rfl⟩
 refine ⟨_,_,rfl,J6b HCL.out K2.out (fun u hu b e=>?_) ho9,J6k HPK.out K2.out (fun u hu b e=>?_) ho9,Below.trans HX2.out (hl9 _ hgl)⟩
 . obtain ⟨_,_,_,rfl⟩:=hne u hu; cases e
 . obtain ⟨_,_,_,rfl⟩:=hne u hu; cases e
end Go.Proofs
namespace Go.Proofs
open Go.RowKit Go.Tw Go.Flow
theorem J6f {K:Value -> World -> Prop} {o:Oper} {a:Act} {w:World} (x:Operand) (t e:TypeId) (ho:o.op=.makeSlice t x x) (i:TypeInfo) (z:Value) (k bytes:Nat) (ht:Tryz.prog.underlying t=some (.slice e)) (hi:Tryz.prog.info? e=some i) (hz:i.zero=some z) (hs:i.size=k) (hby:i.bytes=bytes)
    (n:Nat) (hx:a.eval x=.int .i64 n) (hn:n <= 1000) (hb:bytes <= 1000)
    (h:K (.slice (some ⟨w.heap.size,0,none⟩) n n) (w.alloc (.cells (madeCells z.cells (n * k)) e))):gives Tryz.prog K ((execOp a.eval o).run Tryz.prog w):=by
 have hnb:bytes * n <= 1000 * 1000:=Nat.mul_le_mul hb hn;have hr:=run_make (P:=Tryz.prog) w t e i z ht hi hz .i64 .i64 n n (by omega) (Int.le_refl _) (by rw [hby]; have:((bytes * n:Nat):Int) <= 1000000:=(by omega); rw [Int.natCast_mul] at this; omega) (by omega)
 simp only [Int.toNat_natCast,hs] at hr;unfold execOp;simp only [ho,hx,Sem.run_bind,hr,Result.andThen_ok,Sem.run_pure];exact h
end Go.Proofs
namespace Go.Tw
open Go.RowKit Go.Flow
theorem J3x {α:Type} (x d:α):∀ (n:Nat) (xs:List α) (i:Nat),n <= xs.length -> (xs.take n ++ [x] ++ xs.drop n).getD i d=if i < n then xs.getD i d else if i=n then x else xs.getD (i - 1) d
 | 0,xs,i,_=>by cases i <;> simp
 | n + 1,[],i,h=>by simp at h
 | n + 1,y :: ys,0,_=>by simp
 | n + 1,y :: ys,i + 1,h=>by
   have:=J3x x d n ys i (by simpa using h)
   simp only [List.take_succ_cons,List.drop_succ_cons,List.cons_append,List.getD_cons_succ,this]
   by_cases h1:i < n
   . have h1':i + 1 < n + 1:=by omega
     simp only [h1,h1',if_true]
   . have h1':¬ (i + 1 < n + 1):=by omega
     by_cases h2:i=n
     . subst h2
       simp
     . have h2':¬ (i + 1=n + 1):=by omega
       obtain ⟨m,rfl⟩:∃ m,i=m + 1:=⟨i - 1,by omega⟩
       simp only [h1,h1',h2,h2',if_false];simp
theorem Reads.insert {w:World} {vs:List Value} {ll:List (List Int)} {v:Value} {l:List Int} {n:Nat} (h:Reads w vs ll) (hv:Q0d w v l) (hn:n <= ll.length):Reads w (vs.take n ++ [v] ++ vs.drop n) (ll.take n ++ [l] ++ ll.drop n):=by
 have hl:=h.1;refine ⟨by simp [hl],fun i hi=>?_⟩
 rw [J3x _ _ _ _ _ (by omega),J3x _ _ _ _ _ hn]
 simp only [List.length_append,List.length_take,List.length_drop,List.length_singleton] at hi
 split
 . exact h.2 i (by omega)
 . split
   . exact hv
   . exact h.2 (i - 1) (by omega)
theorem J3t {w w1 w2:World} (hx:Ext w.drew w1) (hb:Below w.heap.size w1 w2):Ext w w2:=Below.trans (((Ext.refl w).drew).trans hx) hb
end Go.Tw
namespace Go.Tw
theorem J2x (p:List Rul) (n:Nat):(J2n p n).length=p.length:=by simp [J2n]
theorem J5l (p:List Rul) (n:Nat):(J2n p n).map Rul.classes=p.map Rul.classes:=by
 refine List.ext_getElem (by simp [J2n]) fun i h1 h2=>?_
 have hi:i < p.length:=by simpa using h2
 simp [J2n,Q7f hi]
theorem J4z {h:List (List Int)} {p:List Rul} {n:Nat} (hp:Q2d h p=0):Q2d h (J2n p n)=0:=by
 rw [Q4h] at hp ⊢;rw [J5l,hp]
end Go.Tw
namespace Go.Tw
open Go.RowKit Go.Flow
section
variable {α:Type} {enc:α -> List Value} {k:Nat}
theorem J5i {P:Program} {w:World} (dT sT ty elem:TypeId) (hu:P.underlying dT=some (.slice elem)) {sz:Nat} (hs:∀ w,(sizeOf elem).run P w=.ok sz w) (n dcap scap:Nat) {g:Nat} {T:TypeId} {cur:Array Value} (hb:Blk w g T cur) (sp:Option Addr) (cs:List Value) (hlen:cs.length=n * sz)
    (hsrc:∀ j v,cs[j]?=some v -> ∃ b off,sp=some ⟨b,off,none⟩ /\ w.cell? ⟨b,off + j,none⟩=some v) (hfit:cs.length <= cur.size) (h1:∀ v ∈ cs,v.oneCell'=true) :
    ∃ w',(Builtin.copy_ #[dT,sT] ty #[.slice (some ⟨g,0,none⟩) n dcap,.slice sp n scap]).run P w=.ok (goInt n) w' /\ Blk w' g T (Q2s cur 0 cs) /\ (∀ n,n <= g -> Below n w w') /\ ∀ k,k ≠ g -> w'.heap[k]?=w.heap[k]?:=by
 obtain ⟨w',hr,hb',hl,hoo⟩:=Q7b (P:=P) (off:=0) cs 0 w cur hb h1 (by simp; exact hfit)
 refine ⟨w',?_,hb',hl,hoo⟩;have hfc:(Builtin.firstCells sz n (.slice sp n scap)).run P w=.ok cs.toArray w:=by
  cases sp with
  | none =>
    have:cs=[]:=by
     cases cs with
     | nil=>rfl
     | cons v vs=>obtain ⟨b,off,he,_⟩:=hsrc 0 v rfl; cases he
    subst this;simp [Builtin.firstCells]
  | some ad =>
    have hl2:=run_loadCells_list (P:=P) w ad cs (fun j v hv=>by
     obtain ⟨b,off,he,hc⟩:=hsrc j v hv;cases he;rw [addr_add]; exact hc)
    rw [hlen] at hl2
    simpa [Builtin.firstCells] using hl2
 simp [Builtin.copy_,run_underlying hu,Builtin.lenOf,hs,hfc,hr]
end
end Go.Tw
