/- Contract: Best. Contracts: the function that Always lays over the histories, mapped, Always. -/
import Derived.Test.YthnobngcipaljaaGreatDoorPp26
import Derived.Test.YthnobngcipaljaaGreatDoorPp07
import Derived.Test.YthnobngcipaljaaGreatDoorPp19
set_option maxRecDepth 1000000
set_option maxHeartbeats 64000000
set_option linter.unusedVariables false
set_option linter.unusedSimpArgs false
set_option linter.constructorNameAsVariable false
open Go.Lib (hid)
namespace Go.Tw
open Go.RowKit Go.Flow
def Z2w (s:Q0b) (need:Int):Int:=Q0g [s.err,Q0f need 0 8000]
def X9c (s:Q0b) (need:Int):Int × Int × Int:=if Z2w s need ≠ 0 then (0,0,Z2w s need) else match Y2s s need with
 | none=>(0,0,24)
 | some x=>(x.closings,x.delay,0)
def Y1g (s:Q0b) (need:Int):List Rul:=if Z2w s need ≠ 0 then [] else match Y2s s need with
 | none=>[]
 | some x=>X7b s x
def Y6p (s:Q0b) (need:Int) (k:Nat):Option Plan:=((Q2j s).take k).foldl (Q1n need) none
theorem Y9c {s:Q0b} {need:Int} {k:Nat} {x:Plan} (h:(Q2j s)[k]?=some x):Y6p s need (k + 1)=Q1n need (Y6p s need k) x:=by
 obtain ⟨hk,rfl⟩:=List.getElem?_eq_some_iff.1 h;unfold Y6p;rw [List.take_succ_eq_append_getElem hk,List.foldl_append]; rfl
theorem Z2u (s:Q0b) (need:Int):Y6p s need (Q2j s).length=Y2s s need:=by unfold Y6p Y2s; rw [List.take_length]
end Go.Tw
namespace Go.Proofs
open Go.RowKit Go.Tw Go.Flow
attribute [local go_sem] Oper.semAt_some
theorem Q7p {P:Program} {fn:Func} {p q r t:Tmp} {T:TypeId} (h:fn.results=#[.cell p T,.tmp q,.tmp r,.tmp t]) {tmps:Array Value} {w:World} {g:Nat} (ht:tmps.getD p undef=.pointer (some ⟨g,0,none⟩)) {BT:TypeId} {cs:Array Value} (hb:Blk w g BT cs)
    (hA:∀ w,(isAgg T).run P w=.ok true w) (hS:∀ w,(sizeOf T).run P w=.ok cs.size w) {a b c:Value} (hq:tmps.getD q undef=a) (hr:tmps.getD r undef=b) (hc:tmps.getD t undef=c):(results fn tmps).run P w=.ok (.tuple #[.agg cs,a,b,c]) w:=by
 unfold results;rw [h];simp only [List.mapM_toArray,List.mapM_cons,List.mapM_nil,Sem.run_bind,Sem.run_pure,ht,hq,hr,hc,asAddr];simp [Q3a hb hA hS]
theorem Q7g {P:Program} {ops:Array Oper} {Q:Exit -> Act -> World -> Prop} {rest:List Oper} {a:Act} {w:World} {T ty:TypeId} {p x:Operand} {pos} {after} (h:wpList P ops Q (⟨none,.store T p x,ty,pos,after,none⟩ :: rest) a w):wpList P ops Q (⟨none,.store T p x,ty,pos,after,none⟩ :: rest) a w:=h
def Z5k (s:Q0b) (need:Int) (e:Ending) (w':World):Prop:=∃ x,e=.returned (.tuple #[.agg #[x],.int .i64 (X9c s need).1,.int .i64 (X9c s need).2.1,.int .i64 (X9c s need).2.2]) /\ Q3m w' x (Y1g s need)
theorem Y0c {A:Option Addr} {n c:Nat}:∀ u ∈ (#[Value.slice A n c]:Array Value).toList,u.oneCell'=true:=by
 intro u hu;simp only [List.mem_cons,List.not_mem_nil,or_false] at hu;subst hu; rfl
def Z6o (w:World) (g:Nat):Option Plan -> Prop
 | none=>Blk w g 159 #[.int .i64 0,.int .i64 0,.int .i64 0,.slice none 0 0]
 | some o=>∃ A n c,Blk w g 159 #[.int .i64 o.weight,.int .i64 o.closings,.int .i64 o.delay,.slice A n c] /\ Q0q w 0 9 .string (.slice A n c) o.closed
theorem X4p {O:Nat} {a b c:World} (h:Off O a b) (hl:∀ n,n <= O -> Below n b c) (ho:∀ k,k ≠ O -> c.heap[k]?=b.heap[k]?):Off O a c :=
 ⟨h.1.trans (hl O (Nat.le_refl _)),Nat.le_trans h.2.1 (hl O (Nat.le_refl _)).size,fun k hk hne=>(ho k hne).trans (h.2.2 k hk hne)⟩
theorem Q1r {a b:Int} (h:Q0g [a,b]=0):a=0 /\ b=0:=by
 unfold Q0g at h
 by_cases ha:a=0
 . subst ha
   simp [Q0g] at h;exact ⟨rfl,by by_cases hb:b=0 <;> simp_all⟩
 . rw [if_neg ha] at h; exact absurd h ha
def X3b (g:Nat) (T:TypeId) (cs:Array Value) (a b:World):Prop:=(∀ n,n <= g -> n <= a.heap.size -> Below n a b) /\ (∀ k,k < a.heap.size -> k ≠ g -> b.heap[k]?=a.heap[k]?) /\ (Blk a g T cs -> Blk b g T cs)
theorem X3b.refl (g:Nat) (T:TypeId) (cs:Array Value) (a:World):X3b g T cs a a:=⟨fun _ _ _=>Below.refl _ _,fun _ _ _=>rfl,id⟩
theorem X3b.size {g:Nat} {T:TypeId} {cs:Array Value} {a b:World} (h:X3b g T cs a b):a.heap.size <= b.heap.size:=(h.1 0 (Nat.zero_le _) (Nat.zero_le _)).size
theorem X3b.trans {g:Nat} {T:TypeId} {cs:Array Value} {a b c:World} (h:X3b g T cs a b) (k:X3b g T cs b c):X3b g T cs a c :=
 ⟨fun n hn hs=>(h.1 n hn hs).trans (k.1 n hn (Nat.le_trans hs h.size)),fun j hj hne=>(k.2.1 j (Nat.lt_of_lt_of_le hj h.size) hne).trans (h.2.1 j hj hne),fun x=>k.2.2 (h.2.2 x)⟩
theorem X3b.ext {g:Nat} {T:TypeId} {cs:Array Value} {a b:World} (h:Ext a b):X3b g T cs a b :=
 ⟨fun _ _ hs=>h.below hs,fun k hk _=>h.block k hk,fun x=>x.ext h⟩
theorem X3b.blk {g j:Nat} {T S:TypeId} {cs ds:Array Value} {a b:World} (h:X3b g T cs a b) (hb:Blk a j S ds) (hne:j ≠ g):Blk b j S ds:=(h.2.1 j hb.lt hne).trans hb
theorem X1g {a b:World} {g i k:Nat} {u:Value} (h:a.cell? ⟨i,k,none⟩=some u) (hne:i ≠ g) (hk:∀ k,k < a.heap.size -> k ≠ g -> b.heap[k]?=a.heap[k]?):b.cell? ⟨i,k,none⟩=some u:=by
 have hlt:i < a.heap.size:=World.block_lt_of_cell? a _ h;rw [<- h];unfold World.cell?;rw [hk i hlt hne]
theorem X2l {a:World} {g i k n c:Nat} {T:TypeId} {A:Option Addr} {u:Value} (hg:Blk a g T #[.slice A n c]) (h:a.cell? ⟨i,k,none⟩=some u) (hu:∀ A n c,u ≠ .slice A n c):i ≠ g:=by
 rintro rfl;rw [hg.cell] at h;cases k with
 | zero=>simp at h; exact hu _ _ _ h.symm
 | succ k=>simp at h
theorem Z2z {a b:World} {g n c:Nat} {T:TypeId} {A:Option Addr} {v:Value} {l:List Int} (h:Q0d a v l) (hg:Blk a g T #[.slice A n c]) (hk:∀ k,k < a.heap.size -> k ≠ g -> b.heap[k]?=a.heap[k]?):Q0d b v l:=by
 obtain ⟨f,⟨A',cap,hv,hn,hcap,hc⟩,h2⟩:=h;refine ⟨f,⟨A',cap,hv,hn,hcap,fun j hj=>?_⟩,h2⟩;obtain ⟨b',off,hA,hcell⟩:=hc j hj;have e:=h2 j (by omega)
 simp only [Nat.mul_one,Nat.add_zero] at e;exact ⟨b',off,hA,X1g hcell (X2l hg hcell (by rw [e]; intro _ _ _ hh; cases hh)) hk⟩
theorem Y8y {a b:World} {g n c:Nat} {T:TypeId} {A:Option Addr} {v:Value} {l:List Rul} (h:Q3m a v l) (hg:Blk a g T #[.slice A n c]) (hk:∀ k,k < a.heap.size -> k ≠ g -> b.heap[k]?=a.heap[k]?):Q3m b v l:=by
 obtain ⟨f,⟨A',cap,hv,hn,hcap,hc⟩,h2⟩:=h;refine ⟨f,⟨A',cap,hv,hn,hcap,fun j hj=>?_⟩,fun j hj=>?_⟩
 . obtain ⟨b',off,hA,hcell⟩:=hc j hj
   obtain ⟨b2,off2,hA2,hcell2⟩:=hc (j / 2 * 2 + 1) (by omega)
   rw [hA] at hA2;injection hA2 with hA2;injection hA2 with e1 e2 _;subst e1;have e:=(h2 (j / 2) (by omega)).2
   simp only at e;exact ⟨b',off,hA,X1g hcell (X2l hg hcell2 (by rw [e]; intro _ _ _ hh; cases hh)) hk⟩
 . obtain ⟨x,y⟩:=h2 j hj
   exact ⟨Z2z x hg hk,y⟩
theorem Z0g {s:Q0b} (hS:Q1b s):∀ h ∈ s.hist,h.length <= 4096:=fun h hh=>by
 obtain ⟨t,ht,k,hk,rfl⟩:=(Q0b.Q4n _ _).1 hh;rw [List.length_take];have h1:=(hS.shaped k hk).1;have h2:=hS.tides;omega
theorem Z4g {s:Q0b} {need:Int} {x:Plan} (h:Y2s s need=some x):x ∈ Q2j s:=by
 have go:∀ (l:List Plan) (b:Option Plan),l.foldl (Q1n need) b=some x -> x ∈ l ∨ b=some x:=by
  intro l
  induction l with
  | nil=>intro b h; exact .inr h
  | cons y l ih =>
    intro b h
    rcases ih _ h with h | h
    . exact .inl (List.mem_cons_of_mem _ h)
    . unfold Q1n at h
      split at h
      . exact .inr h
      . split at h
        . injection h with h; exact .inl (by rw [<- h]; exact List.mem_cons_self)
        . split at h
          . injection h with h; exact .inl (by rw [<- h]; exact List.mem_cons_self)
          . exact .inr h
 rcases go _ _ h with h | h
 . exact h
 . cases h
theorem Y1e (w:World) (v:Value) (s:Q0b) (need:Int) (hv:Q0h w v s) (hs:Q3k s) (hF:s.hist.length <= 9) :
    Calls Tryz.prog 21 #[v,.int .i64 need] w fun e w'=>Z5k s need e w' /\ Ext w w':=by
 obtain ⟨a,b,rfl,h2⟩:=hv;obtain ⟨A,capa,rfl,-,-,-⟩:=h2.ships.opened;obtain ⟨B,capb,rfl,-,-,-⟩:=h2.members.opened;have H2:=hid h2;have HS:=hid hs;have HFE:=hid hF;clear h2 hs hF;go_enter Tryz.func21,Tryz.ntmps21;go_wp2_with fail;change Calls _ _ _ ((w.alloc (.cells #[.int .i64 s.limit,.slice A s.ships.length capa,.slice B s.members.length capb] 34)).alloc (.cells #[.slice none 0 0] 38)) _;obtain ⟨W,hWW,k0,k1,HXW,eW⟩:=Q4e w 34 #[.int .i64 s.limit,.slice A s.ships.length capa,.slice B s.members.length capb] 38 #[.slice none 0 0];rw [hWW];clear hWW;have K0:=hid k0;have K1:=hid k1;obtain ⟨gs,hgs⟩:∃ z,w.heap.size=z:=⟨_,rfl⟩;have HGS:=hid hgs;rw [hgs] at K0 K1 eW ⊢;clear k0 k1 hgs;refine (Q1u _ _ s ⟨_,_,rfl,H2.out.ext HXW.out⟩ HS.out).mono ?_;rintro e w5 ⟨rfl,hx5⟩;have HXR:=hid hx5;have HER:Hid (Z2w s need=Q0g [s.err,Q0f need 0 8000]):=hid rfl;obtain ⟨E,hE⟩:∃ E,s.err=E:=⟨_,rfl⟩;have HE:=hid hE;rw [hE] at HER ⊢;have HNE:=hid (X0x w5 need);obtain ⟨R,hR⟩:∃ R,Q0f need 0 8000=R:=⟨_,rfl⟩;have HR:=hid hR;rw [hR] at HER HNE;have HFI:=hid (first_any (w5.alloc (.cells #[.int .i64 E,.int .i64 R] 29)) _ [E,R] (Q3q (by simp)))
 rw [<- HER.out] at HFI;obtain ⟨F,hFv⟩:∃ F,Z2w s need=F:=⟨_,rfl⟩;have HFV:=hid hFv;rw [hFv] at HFI;clear hx5 hE hR hFv;go_wp2_with (first | (go_at_call 97; refine HNE.out.mono ?_; rintro e w6 ⟨rfl,rfl⟩; refine halted ?_) | fail)
 unfold Q1i
 by_cases hf:F=0
 . have hz:=Q1r (HER.out.symm.trans (HFV.out.trans hf))
   have hE0:s.err=0:=HE.out.trans hz.1;have hV:=Q1b.of hE0;have HV:=hid hV;have hbd:=Q6b hV s.ships.length (Nat.le_refl _) (X9l s) Q6q Q8n;have hpe:Q1w s s.ships.length (X9l s)=Q2j s:=rfl;rw [hpe] at hbd;have hple:(Q2j s).length <= 512:=by
    have h1:2 ^ X2m s (s.ships.length - s.ships.length) (X9l s) <= 2 ^ 9:=Nat.pow_le_pow_right (by omega) (Nat.le_trans (X5i _ _) HFE.out)
    omega
   have HPE:=hid hple;have HCL:Hid (∀ x ∈ Q2j s,x.closed.length <= 100000):=hid (fun x hx=>by have:=(hbd.2 x hx).l; have:=X5i (s:=s) (s.ships.length - s.ships.length) (X9l s); have:=HFE.out; omega)
   have HBN:Hid (∀ o,Y2s s need=o -> X9c s need=(match o with | none=>(0,0,24) | some x=>(x.closings,x.delay,0)) /\ Y1g s need=(match o with | none=>[] | some x=>X7b s x)):=hid (fun o ho=>⟨by unfold X9c; rw [HFV.out,if_neg (by simp [hf]),ho],by unfold Y1g; rw [HFV.out,if_neg (by simp [hf]),ho]⟩)
   have hne:(F != 0)=false:=by simp [hf]
   have HXA:Hid (Ext w (w5.alloc (.cells #[.int .i64 E,.int .i64 R] 29))):=hid (HXW.out.trans (HXR.out.trans (Ext.box _ _)));have hkA:=(K0.out.ext HXR.out).ext (Ext.box w5 (.cells #[.int .i64 E,.int .i64 R] 29));have hkP:=(K1.out.ext HXR.out).ext (Ext.box w5 (.cells #[.int .i64 E,.int .i64 R] 29));obtain ⟨wa,hwa⟩:∃ z,w5.alloc (.cells #[.int .i64 E,.int .i64 R] 29)=z:=⟨_,rfl⟩;rw [hwa] at HFI HXA hkA hkP;have hbB:=Blk.made wa 159 #[.int .i64 0,.int .i64 0,.int .i64 0,.slice none 0 0];have hxB:=Ext.box wa (.cells #[.int .i64 0,.int .i64 0,.int .i64 0,.slice none 0 0] 159);have hkB:=hkA.ext hxB;have c0:=(hkB).cell 0;have c1:=(hkB).cell 1;have c2:=(hkB).cell 2;simp only [Go.Tw.gA,Go.Tw.gB,Go.Tw.gC] at c0 c1 c2;have HKA:=hid hkA;have HKP:=hid hkP;have HBB:=hid hbB;have HXB:=hid hxB;have HPL:=hid (Y3y (wa.alloc (.cells #[.int .i64 0,.int .i64 0,.int .i64 0,.slice none 0 0] 159)) _ s ⟨_,_,rfl,H2.out.ext (HXA.out.trans hxB)⟩ hV HFE.out);clear hz hE0 hV hbd hpe hple hkA hkP hbB hxB hkB;go_wp2_with (first | (go_at_call 96; (try rw [hwa]); refine HFI.out.mono ?_; rintro e w7 ⟨rfl,rfl⟩) | (go_at_call 94; refine HPL.out.mono ?_; rintro e w6 ⟨x6,qs6,rfl,h1,h2,h3,h4⟩; refine halted ?_))
   have HO6:=hid h1;have HC6:=hid h2;have HM6:=hid h3;have HX6:=hid h4;obtain ⟨A6,c6,hs6,-⟩:=h1.shape;subst hs6;have HLQ:Hid (qs6.length=(Q2j s).length):=hid (by rw [<- h3,List.length_map])
   obtain ⟨gb,hgb⟩:∃ z,wa.heap.size=z:=⟨_,rfl⟩;have HGB:=hid hgb;have HBI:Hid (Z6o w6 gb none):=hid (by rw [<- hgb]; exact HBB.out.ext h4)
   have HK6:Hid (Blk w6 gs 34 #[.int .i64 s.limit,.slice A s.ships.length capa,.slice B s.members.length capb]):=hid (HKA.out.ext (HXB.out.trans h4));have HP6:Hid (Blk w6 (gs + 1) 38 #[.slice none 0 0]):=hid (HKP.out.ext (HXB.out.trans h4));have HGL:Hid (gs + 1 < gb):=hid (by have:=HKP.out.lt; omega)
   have HBS:Hid (gb < (wa.alloc (.cells #[.int .i64 0,.int .i64 0,.int .i64 0,.slice none 0 0] 159)).heap.size):=hid (by have:=HBB.out.lt; omega)
   have HXW6:=hid (HXA.out.trans (HXB.out.trans h4));rw [hgb];obtain ⟨L,hL⟩:∃ z,qs6.length=z:=⟨_,rfl⟩;have HL:=hid hL;rw [hL];have hl9:L <= 512:=by have:=HPE.out; rw [<- hL,HLQ.out]; exact this
   clear h1 h2 h3 h4 hgb hL c0 c1 c2;unfold Q1i;go_wp2
   go_loopw [10,27] (fun f i wr=>∃ (k:Nat) (b:Option Plan),k <= L /\ i=.int .i64 k /\ f=.bool b.isSome /\ Off gb w6 wr /\ Z6o wr gb b /\ b=Y6p s need k) (fun _ i _=>L - (intOf i).toNat)
   case atStart=>exact ⟨0,none,Nat.zero_le _,rfl,rfl,Off.refl _ _,HBI.out,rfl⟩
   case round =>
    obtain ⟨k,b,hk,rfl,rfl,hof,hbi,hbk⟩:=hrel;have HOF:=hid hof;have HBI2:=hid hbi;have HBK:=hid hbk
    by_cases hlt:k < L
    . have hkp:k < qs6.length:=by rw [HL.out]; exact hlt
      have hkI:(k:Int) < L:=by omega
      have hbg:∃ cs,Blk wr gb 159 cs:=by cases b with
       | none=>exact ⟨_,hbi⟩
       | some o=>obtain ⟨_,_,_,h,_⟩:=hbi; exact ⟨_,h⟩
      have hb6:∃ cs,Blk w6 gb 159 cs:=⟨_,HBI.out⟩;obtain ⟨cs6,hb6⟩:=hb6;have hcr:=HC6.out.off hb6 (fun j hj hne=>hof.2.2 j hj hne);have HCR:=hid hcr;obtain ⟨A',cv',hA',HCELL⟩:=Q6o (Q0z.off HO6.out HBS.out hof);injection hA' with hA' hn' hcv';subst hA';subst hcv';obtain ⟨gq,rfl,hcell⟩:=HCELL.out k hkp;have e0:=hcell 0 (by omega)
      have e1:=hcell 1 (by omega)
      have e2:=hcell 2 (by omega)
      have e3:=hcell 3 (by omega)
      obtain ⟨A4,n4,c4,hsl⟩:=hcr.shape (List.getElem_mem hkp);have hpk:(Q2j s)[k]?=some qs6[k].1:=by rw [<- HM6.out,List.getElem?_map,List.getElem?_eq_getElem hkp]; rfl
      have hcl:=hcr qs6[k] (List.getElem_mem hkp);obtain ⟨qk,hqke⟩:∃ z,qs6[k]=z:=⟨_,rfl⟩;rw [hqke] at e0 e1 e2 e3 hsl hcl hpk;obtain ⟨x,xv⟩:=qk;replace hsl:xv=.slice A4 n4 c4:=hsl;subst hsl;have HST:Hid (Y6p s need (k + 1)=Q1n need b x):=hid (by rw [Y9c hpk,<- hbk])
      have HCLX:=hid hcl;rw [Nat.add_zero] at e0;obtain ⟨x1,hx1⟩:∃ z,x.weight=z:=⟨_,rfl⟩;obtain ⟨x2,hx2⟩:∃ z,x.closings=z:=⟨_,rfl⟩;obtain ⟨x3,hx3⟩:∃ z,x.delay=z:=⟨_,rfl⟩;have HPX:=hid (show x.weight=x1 /\ x.closings=x2 /\ x.delay=x3 from ⟨hx1,hx2,hx3⟩)
      replace e0:wr.cell? ⟨gq,k * 4,none⟩=some (.int .i64 x1):=by rw [<- hx1]; exact e0
      replace e1:wr.cell? ⟨gq,k * 4 + 1,none⟩=some (.int .i64 x2):=by rw [<- hx2]; exact e1
      replace e2:wr.cell? ⟨gq,k * 4 + 2,none⟩=some (.int .i64 x3):=by rw [<- hx3]; exact e2
      replace e3:wr.cell? ⟨gq,k * 4 + 3,none⟩=some (.slice A4 n4 c4):=e3;have hbox:=Ext.box wr (.cells #[.int .i64 x1,.int .i64 x2,.int .i64 x3,.slice A4 n4 c4] 159);have K3:=Blk.made wr 159 #[.int .i64 x1,.int .i64 x2,.int .i64 x3,.slice A4 n4 c4];have HXC:=hid hbox;have HK3:=hid K3;have HGW:Hid (gb <= wr.heap.size):=hid (by obtain ⟨cs,h⟩:=hbg; exact Nat.le_of_lt h.lt)
      have d0:=(K3).cell 0;have d1:=(K3).cell 1;have d2:=(K3).cell 2;have d3:=(K3).cell 3;simp only [Go.Tw.gA,Go.Tw.gB,Go.Tw.gC] at d0 d1 d2 d3;clear hcell hqke hx1 hx2 hx3 hcl hpk hkp hof hbk hcr hb6 hbg
      by_cases hw:x1 < need
      . have HB1:Hid (Q1n need b x=b):=hid (by unfold Q1n; rw [if_pos (by rw [HPX.out.1]; exact hw)])
        clear hbi hbox K3
        go_light
        go_wp2;go_roundw
        case rel =>
         refine ⟨k + 1,b,by omega,by go_num,rfl,Off.ext HOF.out HXC.out HGW.out,?_,by rw [HST.out,HB1.out]⟩
         cases b with
         | none=>exact Blk.ext HBI2.out HXC.out
         | some o=>obtain ⟨A,n,c,h,h'⟩:=HBI2.out; exact ⟨A,n,c,h.ext HXC.out,h'.below HXC.out⟩
        case measure=>simp [intOf]; omega
      . have hwI:¬ x.weight < need:=by rw [HPX.out.1]; exact hw
        cases b with
        | none =>
          have HB1:Hid (Q1n need none x=some x):=hid (by unfold Q1n; rw [if_neg hwI])
          have hbc:Blk (wr.alloc (.cells #[.int .i64 x1,.int .i64 x2,.int .i64 x3,.slice A4 n4 c4] 159)) gb 159 #[.int .i64 0,.int .i64 0,.int .i64 0,.slice none 0 0]:=Blk.ext hbi hbox;clear hbi hbox K3 hwI
          go_light
          go_wp2_with (with_reducible (refine Q7g ?_); refine Q0s rfl _ _ _ rfl Tryz.X5w rfl rfl hbc rfl rfl X0o ?_; intro w9 hb9 hl9 ho9);have HB9:=hid hb9;have HOF9:=hid (X4p (Off.ext HOF.out HXC.out HGW.out) hl9 ho9);have HC9:Hid (Q0q w9 0 9 .string (.slice A4 n4 c4) x.closed):=hid (by
           have h:=Q0j.off (w':=w9) (ps:=[((x,Value.slice A4 n4 c4):PV)]) (g:=gb) (fun q hq=>by obtain rfl:=List.mem_singleton.1 hq; exact HCLX.out.below HXC.out) hbc (fun k _ hk=>ho9 k hk)
           exact h _ (List.mem_singleton.2 rfl))
          clear hb9 hl9 ho9 hbc;go_wp2;go_roundw
          case rel=>exact ⟨k + 1,some x,by omega,by go_num,rfl,HOF9.out,⟨A4,n4,c4,by rw [HPX.out.1,HPX.out.2.1,HPX.out.2.2]; exact HB9.out,HC9.out⟩,by rw [HST.out,HB1.out]⟩
          case measure=>simp [intOf]; omega
        | some o =>
          obtain ⟨Ao,no,co,hbo,hboS⟩:=hbi;have hbc:=hbo.ext hbox;have HBS1:Hid (Q1n need (some o) x=if x.closings < o.closings ∨ x.closings=o.closings /\ x.delay < o.delay then some x else some o):=hid (by unfold Q1n; rw [if_neg hwI])
          rw [HPX.out.2.1,HPX.out.2.2] at HBS1;obtain ⟨o1,ho1⟩:∃ z,o.weight=z:=⟨_,rfl⟩;obtain ⟨o2,ho2⟩:∃ z,o.closings=z:=⟨_,rfl⟩;obtain ⟨o3,ho3⟩:∃ z,o.delay=z:=⟨_,rfl⟩;rw [ho2,ho3] at HBS1;rw [ho1,ho2,ho3] at hbc;have g0:=(hbc).cell 0;have g1:=(hbc).cell 1;have g2:=(hbc).cell 2;have g3:=(hbc).cell 3;simp only [Go.Tw.gA,Go.Tw.gB,Go.Tw.gC] at g0 g1 g2 g3;clear hbo hboS hbox K3 hwI ho1 ho2 ho3
          by_cases hc1:x2 < o2
          . have HB1:Hid (Q1n need (some o) x=some x):=hid (by rw [HBS1.out,if_pos (.inl hc1)])
            go_light
            go_wp2_with (with_reducible (refine Q7g ?_); refine Q0s rfl _ _ _ rfl Tryz.X5w rfl rfl hbc rfl rfl X0o ?_; intro w9 hb9 hl9 ho9);have HB9:=hid hb9;have HOF9:=hid (X4p (Off.ext HOF.out HXC.out HGW.out) hl9 ho9);have HC9:Hid (Q0q w9 0 9 .string (.slice A4 n4 c4) x.closed):=hid (by
             have h:=Q0j.off (w':=w9) (ps:=[((x,Value.slice A4 n4 c4):PV)]) (g:=gb) (fun q hq=>by obtain rfl:=List.mem_singleton.1 hq; exact HCLX.out.below HXC.out) hbc (fun k _ hk=>ho9 k hk)
             exact h _ (List.mem_singleton.2 rfl))
            clear hb9 hl9 ho9 hbc;go_wp2;go_roundw
            case rel=>exact ⟨k + 1,some x,by omega,by go_num,rfl,HOF9.out,⟨A4,n4,c4,by rw [HPX.out.1,HPX.out.2.1,HPX.out.2.2]; exact HB9.out,HC9.out⟩,by rw [HST.out,HB1.out]⟩
            case measure=>simp [intOf]; omega
          . by_cases hc2:x2=o2
            . by_cases hc3:x3 < o3
              . have HB1:Hid (Q1n need (some o) x=some x):=hid (by rw [HBS1.out,if_pos (.inr ⟨hc2,hc3⟩)])
                subst hc2
                go_light
                go_wp2_with (with_reducible (refine Q7g ?_); refine Q0s rfl _ _ _ rfl Tryz.X5w rfl rfl hbc rfl rfl X0o ?_; intro w9 hb9 hl9 ho9);have HB9:=hid hb9;have HOF9:=hid (X4p (Off.ext HOF.out HXC.out HGW.out) hl9 ho9);have HC9:Hid (Q0q w9 0 9 .string (.slice A4 n4 c4) x.closed):=hid (by
                 have h:=Q0j.off (w':=w9) (ps:=[((x,Value.slice A4 n4 c4):PV)]) (g:=gb) (fun q hq=>by obtain rfl:=List.mem_singleton.1 hq; exact HCLX.out.below HXC.out) hbc (fun k _ hk=>ho9 k hk)
                 exact h _ (List.mem_singleton.2 rfl))
                clear hb9 hl9 ho9 hbc;go_wp2;go_roundw
                case rel=>exact ⟨k + 1,some x,by omega,by go_num,rfl,HOF9.out,⟨A4,n4,c4,by rw [HPX.out.1,HPX.out.2.1,HPX.out.2.2]; exact HB9.out,HC9.out⟩,by rw [HST.out,HB1.out]⟩
                case measure=>simp [intOf]; omega
              . have HB1:Hid (Q1n need (some o) x=some o):=hid (by rw [HBS1.out,if_neg (by omega)])
                subst hc2;clear hbc
                go_light
                go_wp2;go_roundw
                case rel=>exact ⟨k + 1,some o,by omega,by go_num,rfl,Off.ext HOF.out HXC.out HGW.out,(by obtain ⟨A,n,c,h,h'⟩:=HBI2.out; exact ⟨A,n,c,h.ext HXC.out,h'.below HXC.out⟩),by rw [HST.out,HB1.out]⟩
                case measure=>simp [intOf]; omega
            . have HB1:Hid (Q1n need (some o) x=some o):=hid (by rw [HBS1.out,if_neg (by omega)])
              clear hbc
              go_light
              go_wp2;go_roundw
              case rel=>exact ⟨k + 1,some o,by omega,by go_num,rfl,Off.ext HOF.out HXC.out HGW.out,(by obtain ⟨A,n,c,h,h'⟩:=HBI2.out; exact ⟨A,n,c,h.ext HXC.out,h'.below HXC.out⟩),by rw [HST.out,HB1.out]⟩
              case measure=>simp [intOf]; omega
    . have hke:k=L:=by omega
      subst hke;have hlen:(Q2j s).length=k:=by rw [<- HLQ.out]; exact HL.out
      have hbs:Y2s s need=b:=by rw [<- Z2u,hlen]; exact hbk.symm
      have HB:=hid (HBN.out b hbs);have hbp:Blk wr (gs + 1) 38 #[.slice none 0 0]:=HP6.out.below hof.1 HGL.out;have hks:Blk wr gs 34 #[.int .i64 s.limit,.slice A s.ships.length capa,.slice B s.members.length capb]:=HK6.out.below hof.1 (by have:=HGL.out; omega)
      have HXWR:Hid (Ext w wr):=hid (Below.trans HXW6.out (hof.1.mono (by have:=HGL.out; have:=HGS.out; omega)))
      have HKS:=hid hks;have HBP:=hid hbp;clear hof hbk hlen;cases b with
      | none =>
        clear hbi hks hbs;go_wp2_with (with_reducible (refine Q7g ?_); refine Q0s rfl _ _ _ rfl Tryz.Q4b rfl rfl hbp rfl rfl Y0c ?_; intro w9 hb9 hl9 ho9);refine bodyPost_ret (Q7p Tryz.results21 rfl hb9 Tryz.Q8b Tryz.Q4b rfl rfl rfl) rfl ?_;exact ⟨⟨_,by rw [HB.out.1]; rfl,by rw [HB.out.2]; exact Go.Tw.Rows.nil _ _ _⟩,Below.trans HXWR.out (hl9 _ (by have:=HGS.out; omega))⟩
      | some o =>
        obtain ⟨Ao,no,co,hbo,hboS⟩:=hbi;have HBO:=hid hbo;have hmo:o ∈ Q2j s:=Z4g hbs;have HIS:=hid (Z7o HV.out.toFine hbs);have HHI:=hid (Q6y wr _ s ⟨_,_,rfl,H2.out.ext HXWR.out⟩ HV.out);have HCO:=hid (HCL.out o hmo);have HOS:=hid hboS;have c0:=(hks).cell 0;have c1:=(hks).cell 1;have c2:=(hks).cell 2;simp only [Go.Tw.gA,Go.Tw.gB,Go.Tw.gC] at c0 c1 c2;clear hbo hboS hks hbp hmo hbs;go_wp2_with (go_at_call 99; refine HHI.out.mono ?_; rintro e w7 ⟨x7,rfl,h1,h2⟩; refine halted ?_);have HX7:=hid h2;obtain ⟨A7,c7,hs7,-,-,-⟩:=h1.opened;subst hs7;have HMR:=hid (X6z w7 _ s.hist gb (.slice Ao no co) o.closed h1 (by have:=HFE.out; omega) (fun h hh=>X4g HV.out h hh) (fun h hh=>Z0g HV.out h hh) ((HBO.out.ext h2).cell 3) (HOS.out.below h2) HCO.out)
        clear h1 h2;unfold Q1i;go_wp2_with (go_at_call 98; refine HMR.out.mono ?_; rintro e w8 ⟨x8,rfl,h1,h2⟩; refine halted ?_);have HX8:=hid (HX7.out.trans h2);obtain ⟨R8,c8,hs8,-,-,-⟩:=h1.opened;subst hs8;have HU8:=hid h1;clear h1 h2;unfold Q1i;go_wp2;obtain ⟨o1,ho1⟩:∃ z,o.weight=z:=⟨_,rfl⟩;obtain ⟨o2,ho2⟩:∃ z,o.closings=z:=⟨_,rfl⟩;obtain ⟨o3,ho3⟩:∃ z,o.delay=z:=⟨_,rfl⟩;have HO23:=hid (show o.closings=o2 /\ o.delay=o3 from ⟨ho2,ho3⟩)
        have hbo:=HBO.out;rw [ho1,ho2,ho3] at hbo;have hxz:=Ext.box w8 (.cells #[.slice R8 (Q3s s.hist o.closed).length c8] 38);have hkz:=Blk.made w8 38 #[.slice R8 (Q3s s.hist o.closed).length c8];obtain ⟨wz,hwz⟩:∃ z,w8.alloc (.cells #[.slice R8 (Q3s s.hist o.closed).length c8] 38)=z:=⟨_,rfl⟩;rw [hwz] at hxz hkz ⊢;obtain ⟨gz,hgz⟩:∃ z,w8.heap.size=z:=⟨_,rfl⟩;rw [hgz] at hkz ⊢;have HXZ:=hid (HX8.out.trans hxz);have KZ:=hid hkz;have KS:=hid (HKS.out.ext (HX8.out.trans hxz));have KB:=hid (hbo.ext (HX8.out.trans hxz));have HUZ:=hid (HU8.out.ext hxz);have HSPT:=hid (fun (W:World) (hW:Ext wz W)=>X4y W (.agg #[.int .i64 s.limit,.slice A s.ships.length capa,.slice B s.members.length capb]) (.agg #[.slice R8 (Q3s s.hist o.closed).length c8]) s (X7b s o) ⟨_,_,rfl,H2.out.ext (HXWR.out.trans (HXZ.out.trans hW))⟩ ⟨_,rfl,HUZ.out.ext hW⟩ HV.out (Q4h.2 (by simp [X7b,Function.comp_def])))
        rw [HIS.out.2.2.1,HIS.out.2.2.2,ho2,ho3] at HSPT;have HNZ0:Hid (gz ≠ gs + 1):=hid (by have h1:=HBP.out.lt; have h2:=HX8.out.size; omega)
        obtain ⟨n8,hn8⟩:∃ z,(Q3s s.hist o.closed).length=z:=⟨_,rfl⟩;rw [hn8] at KZ HUZ HSPT ⊢;have hdr:=(Ext.refl wz).drew;clear hbo hxz hkz hwz hgz hn8 ho1 ho2 ho3 c0 c1 c2;refine Flow.Q1o [.w,.w,.w,.p,.w,.p] [0,1,2,3,4,5] [[],[],[0,1],[],[3],[2,4]]
         [.c 0 (.agg #[.int .i64 s.limit,.slice A s.ships.length capa,.slice B s.members.length capb]),.c 1 (.agg #[.slice R8 n8 c8]),.c 2 (.agg #[.int .i64 o2,.int .i64 o3]),.c 3 (.pointer (some ⟨gb,1,none⟩)),.c 4 (.agg #[.int .i64 o2,.int .i64 o3]),.c 5 (.bool false)]
         (by kernel_rfl) rfl (by kernel_rfl) ⟨?g0,?g1,?g2,?g3,?g4,?g5,trivial⟩ ?post
        case g0=>
         intro v w1 hx;intro bb hbb;intro K hK;have o1:bb.eval (.tmp 2)=.pointer (some ⟨gs,0,none⟩):=by rw [hbb]; dsimp only; (try simp (discharger:=decide) only [eval_put_ne]); rfl
         exact Q0p (.tmp 2) _ rfl Tryz.X6u Tryz.Q9o o1 (KS.out.ext (hdr.trans hx)) rfl (hK _ _ (Ext.refl _) rfl)
        case g1=>
         intro v w1 hx;intro bb hbb;intro K hK;have o1:bb.eval (.tmp 13)=.pointer (some ⟨gz,0,none⟩):=by rw [hbb]; dsimp only; (try simp (discharger:=decide) only [eval_put_ne]); rfl
         exact Q0p (.tmp 13) _ rfl Tryz.Q8b Tryz.Q4b o1 (KZ.out.ext (hdr.trans hx)) rfl (hK _ _ (Ext.refl _) rfl)
        case g2=>
         intro v w1 hx;(repeat intro (zq:v _=_));intro bb hbb;subst hbb;intro K hK;go_simp;refine Q0e (HSPT.out w1 (hdr.trans hx)) ?_;rintro e w2 ⟨rfl,hx2⟩;exact ⟨_,rfl,hK _ _ hx2 rfl⟩
        case g3=>
         intro v w1 hx;intro bb hbb;subst hbb;refine ⟨_,fun w=>?_,rfl⟩;go_simp
        case g4=>
         intro v w1 hx;(repeat intro (zq:v _=_));intro bb hbb;intro K hK;have o1:bb.eval (.tmp 77)=.pointer (some ⟨gb,1,none⟩):=by rw [hbb]; dsimp only; (try simp (discharger:=decide) only [eval_put_ne]); rw [Q0a (by simp only [size_put]; exact (by decide:77 < 88))]; assumption
         exact Q5q (.tmp 77) _ rfl Tryz.X8m Tryz.Q7d o1 ((Y2v KB.out).ext (hdr.trans hx)) rfl (hK _ _ (Ext.refl _) rfl)
        case g5=>
         intro v w1 hx;(repeat intro (zq:v _=_));intro bb hbb;subst hbb;refine ⟨_,fun w=>?_,rfl⟩;go_simp
        case post =>
         intro v w1 hx (q0:v 0=_) (q1:v 1=_) (q2:v 2=_) (q3:v 3=_) (q4:v 4=_) (q5:v 5=_);simp only [Flow.All,Flow.acts,Act.put];go_simp;have hxx:=hdr.trans hx;have KZ2:=hid (KZ.out.ext hxx);have KB2:=hid (KB.out.ext hxx);have KP2:=hid (HBP.out.ext (HXZ.out.trans hxx));have HU2:=hid (HUZ.out.ext hxx);have HX2:=hid (HXWR.out.trans (HXZ.out.trans hxx));obtain ⟨wy,rfl⟩:∃ X,X=w1:=⟨_,rfl⟩;clear hx hdr hxx q0 q1 q2 q3 q4;go_wp2;have HNZ:Hid (gz ≠ gs + 1):=hid HNZ0.out;have HNB:Hid (gb ≠ gs + 1):=hid (by have:=HGL.out; omega)
         have hdr:X3b (gs + 1) 38 #[.slice R8 n8 c8] wy wy.drew:=X3b.ext (Ext.refl wy).drew;refine Flow.Z3s (X3b (gs + 1) 38 #[.slice R8 n8 c8]) 7 Ext Ext.refl (fun _ _ _=>Ext.trans) (fun _ _=>X3b.ext) (X3b.refl _ _ _) (fun _ _ _=>X3b.trans) (fun _ _ h=>h.size) [.w,.p,.p,.w,.p,.p,.w,.w,.p,.p,.last] [0,1,2,3,4,5,6,7,8,9,10] [[],[],[1],[1,2],[],[4],[4,5],[0],[0,1,2,3,7],[0,1,2,3,4,5,6,7,8],[0,1,2,3,4,5,6,7,8,9]] [10]
          [.c 0 (.agg #[.slice R8 n8 c8]),.c 1 (.pointer (some ⟨gb,1,none⟩)),.c 2 (.pointer (some ⟨gb,1,none⟩)),.c 3 (.int .i64 o2),.c 4 (.pointer (some ⟨gb,1,none⟩)),.c 5 (.pointer (some ⟨gb,2,none⟩)),.c 6 (.int .i64 o3),⟨fun v wz=>(fun v w'=>Blk w' (gs + 1) 38 #[.slice R8 n8 c8]) v wz,by rintro v a b hx h; exact hx.2.2 h⟩,.c 8 (.int .i64 o2),.c 9 (.int .i64 o3),.none]
          [fun v w1 w'=>v 10=.int .i64 0 /\ w1=w'] (by kernel_rfl) rfl (by kernel_rfl) ⟨?g0,?g1,?g2,?g3,?g4,?g5,?g6,?g7,?g8,?g9,?g10,trivial⟩ ?post
         case g0=>
          intro v w1 hx;replace hx:(X3b (gs + 1) 38 #[.slice R8 n8 c8]) _ w1:=hx;intro bb hbb;intro K hK;have o1:bb.eval (.tmp 13)=.pointer (some ⟨gz,0,none⟩):=by rw [hbb]; dsimp only; (try simp (discharger:=decide) only [eval_put_ne]); rfl
          exact Q0p (.tmp 13) _ rfl Tryz.Q8b Tryz.Q4b o1 ((hdr.trans hx).blk KZ2.out HNZ.out) rfl (hK _ _ (Ext.refl w1) rfl)
         case g1 | g4=>
          intro v w1 hx;replace hx:(X3b (gs + 1) 38 #[.slice R8 n8 c8]) _ w1:=hx;intro bb hbb;subst hbb;refine ⟨_,fun w=>?_,rfl⟩;go_simp
         case g2 | g5=>
          intro v w1 hx;(repeat intro (zq:v _=_));replace hx:(X3b (gs + 1) 38 #[.slice R8 n8 c8]) _ w1:=hx;intro bb hbb;subst hbb;refine ⟨_,fun w=>?_,rfl⟩;go_simp
         case g3=>
          intro v w1 hx;(repeat intro (zq:v _=_));replace hx:(X3b (gs + 1) 38 #[.slice R8 n8 c8]) _ w1:=hx;intro bb hbb;subst hbb;have n0:w1.cell? ⟨gb,1,none⟩=some (.int .i64 o2):=((hdr.trans hx).blk KB2.out HNB.out).cell 1;intro K hK;go_simp;exact hK _ _ (Ext.refl w1) rfl
         case g6=>
          intro v w1 hx;(repeat intro (zq:v _=_));replace hx:(X3b (gs + 1) 38 #[.slice R8 n8 c8]) _ w1:=hx;intro bb hbb;subst hbb;have n0:w1.cell? ⟨gb,2,none⟩=some (.int .i64 o3):=((hdr.trans hx).blk KB2.out HNB.out).cell 2;intro K hK;go_simp;exact hK _ _ (Ext.refl w1) rfl
         case g7=>
          intro v w1 hx;(repeat intro (zq:v _=_));replace hx:Ext _ w1:=hx;intro bb hbb;intro K hK;have o1:bb.eval (.tmp 4)=.pointer (some ⟨gs + 1,0,none⟩):=by rw [hbb]; dsimp only; (try simp (discharger:=decide) only [eval_put_ne]); rfl
          have o2:bb.eval (.tmp 81)=.agg #[.slice R8 n8 c8]:=by rw [hbb]; dsimp only; (try simp (discharger:=decide) only [eval_put_ne]); rw [Q0a (by exact (by decide:81 < 88))]; assumption
          exact Q2b (.tmp 4) (.tmp 81) _ rfl Tryz.Q4b o1 o2 (KP2.out.ext ((Ext.refl wy).drew.trans hx)) rfl rfl Y0c (fun vv w' hb hl ho=>hK _ _ (show X3b _ _ _ _ _ from ⟨fun n hn _=>hl n hn,fun k _ hk=>ho k hk,fun _=>hb⟩) hb)
         case g8=>
          intro v w1 hx (q0:v 0=_) (q1:v 1=_) (q2:v 2=_) (q3:v 3=_) _;replace hx:(X3b (gs + 1) 38 #[.slice R8 n8 c8]) _ w1:=hx;intro bb hbb;subst hbb;refine ⟨_,fun w=>?_,rfl⟩;go_simp
         case g9=>
          intro v w1 hx (q0:v 0=_) (q1:v 1=_) (q2:v 2=_) (q3:v 3=_) (q4:v 4=_) (q5:v 5=_) (q6:v 6=_) _ (q8:v 8=_);replace hx:(X3b (gs + 1) 38 #[.slice R8 n8 c8]) _ w1:=hx;intro bb hbb;subst hbb;refine ⟨_,fun w=>?_,rfl⟩;go_simp
         case g10=>
          intro v w1 hx (q0:v 0=_) (q1:v 1=_) (q2:v 2=_) (q3:v 3=_) (q4:v 4=_) (q5:v 5=_) (q6:v 6=_) _ (q8:v 8=_) (q9:v 9=_);intro wl hT;obtain rfl:wl=w1:=hT;intro bb hbb;subst hbb;intro K hK;go_simp;exact hK _ _ ⟨rfl,rfl⟩
         case post =>
          intro v w1 hx;(iterate 7 intro (zq:v _=_));intro (q7:(fun v w'=>Blk w' (gs + 1) 38 #[.slice R8 n8 c8]) v w1) (q8:v 8=_) (q9:v 9=_);intro w2 hE;replace hE:(fun v w1 w'=>v 10=.int .i64 0 /\ w1=w') v w1 w2:=hE;simp only [Flow.acts,Act.put];go_simp;obtain ⟨h10,hE⟩:=hE;subst hE
          try rw [h10]
          try clear h10
          replace q7:Blk w1 (gs + 1) 38 #[.slice R8 n8 c8]:=q7;have hrel:=hdr.trans hx;have HU9:=hid (Y8y HU2.out KP2.out hrel.2.1);have HX9:Hid (Ext w w1):=hid (Below.trans HX2.out (hrel.1 _ (by have:=HGS.out; omega) HX2.out.size))
          clear hx hdr hrel;(repeat clear zq);go_wp2;refine bodyPost_ret (Q7p Tryz.results21 rfl q7 Tryz.Q8b Tryz.Q4b rfl rfl rfl) rfl ?_;exact ⟨⟨_,by rw [HB.out.1]; simp only [HO23.out.1,HO23.out.2]; rfl,by rw [HB.out.2]; exact HU9.out⟩,HX9.out⟩
 . have hne:(F != 0)=true:=by simp [hf]
   have kP:=K1.out.ext HXR.out |>.ext (Ext.box w5 (.cells #[.int .i64 E,.int .i64 R] 29))
   have HBN:Hid (X9c s need=(0,0,F) /\ Y1g s need=[]):=hid ⟨by unfold X9c; rw [HFV.out,if_pos hf],by unfold Y1g; rw [HFV.out,if_pos hf]⟩
   go_wp2_with (first | (go_at_call 96; refine HFI.out.mono ?_; rintro e w7 ⟨rfl,rfl⟩) | (refine Q0s rfl _ _ _ rfl Tryz.Q4b rfl rfl kP rfl rfl Y0c ?_; intro w9 hb9 hl9 ho9))
   refine bodyPost_ret (Q7p Tryz.results21 rfl hb9 Tryz.Q8b Tryz.Q4b rfl rfl rfl) rfl ?_;exact ⟨⟨_,by rw [HBN.out.1]; rfl,by rw [HBN.out.2]; exact Go.Tw.Rows.nil _ _ _⟩,Below.trans (HXW.out.trans (HXR.out.trans (Ext.box w5 (.cells #[.int .i64 E,.int .i64 R] 29)))) (hl9 _ (by have:=HGS.out; omega))⟩
end Go.Proofs
namespace Go.Proofs
open Go.RowKit Go.Tw Go.Flow
attribute [local go_sem] Oper.semAt_some
def Z3r (w:World) (ll:List (List Int)) (cl:Bool) (rs:List (Value × Bool)):Prop:=∀ j (h1:j < rs.length) (h2:j < ll.length),Q0d w rs[j].1 ll[j] /\ rs[j].2=cl
theorem Z3r.snoc {w:World} {ll:List (List Int)} {cl:Bool} {rs:List (Value × Bool)} {k:Nat} (h:Z3r w ll cl rs) (hk:rs.length=k) {v:Value} {q:Bool} (hlt:k < ll.length) (hv:Q0d w v ll[k]) (hq:cl=q):Z3r w ll cl (rs ++ [(v,q)]):=fun j h1 h2=>by
 by_cases hj:j < rs.length
 . rw [List.getElem_append_left hj]; exact h j hj h2
 . rw [List.length_append,List.length_singleton] at h1
   have:j=k:=by omega
   subst this;rw [List.getElem_append_right (by omega)]
   simp only [hk,Nat.sub_self,List.getElem_cons_zero];exact ⟨hv,hq.symm⟩
theorem Q4c {P:Program} {fn:Func} {p q:Tmp} {T:TypeId} (h:fn.results=#[.cell p T,.tmp q]) {tmps:Array Value} {w:World} {g:Nat} (ht:tmps.getD p undef=.pointer (some ⟨g,0,none⟩)) {BT:TypeId} {cs:Array Value} (hb:Blk w g BT cs)
    (hA:∀ w,(isAgg T).run P w=.ok true w) (hS:∀ w,(sizeOf T).run P w=.ok cs.size w) {v:Value} (hq:tmps.getD q undef=v):(results fn tmps).run P w=.ok (.tuple #[.agg cs,v]) w:=by
 unfold results;rw [h];simp only [List.mapM_toArray,List.mapM_cons,List.mapM_nil,Sem.run_bind,Sem.run_pure,ht,hq,asAddr];simp [Q3a hb hA hS]
end Go.Proofs
