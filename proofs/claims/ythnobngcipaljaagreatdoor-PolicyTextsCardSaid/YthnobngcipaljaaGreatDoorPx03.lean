/- Contract of the program's rule: of a line. For the rows that list the tables of unicode/utf8 and read bytealg.MaxLen: what they give. What a policy among the arguments of a law of chapter 5 reads as. -/
import Derived.Test.YthnobngcipaljaaGreatDoorPp35
import Derived.Test.YthnobngcipaljaaGreatDoorPx02
import Derived.Test.YthnobngcipaljaaGreatDoorPx01
import Derived.HandedShaped
import Derived.Shelf.Vars
set_option maxRecDepth 1000000
set_option maxHeartbeats 64000000
set_option linter.unusedVariables false
set_option linter.unusedSimpArgs false
set_option linter.constructorNameAsVariable false
open Go.Lib (hid)
namespace Go.Proofs
open Go.RowKit Go.Tw Go.Flow
attribute [local go_sem] Oper.semAt_some
theorem Tryz.J2w (w:World):(sizeOf 167).run Tryz.prog w=.ok 2 w:=by kernel_rfl
theorem Tryz.J5h (w:World):(isAgg 167).run Tryz.prog w=.ok true w:=by kernel_rfl
def J8d (w:World):Prop:=∃ m,w.cell? ⟨1,0,none⟩=some (.int .i64 m)
theorem J8d.ext {w w':World} (h:J8d w) (hx:Ext w w'):J8d w':=by obtain ⟨m,h⟩:=h; exact ⟨m,hx.cell h⟩
def J4x (x:ByteArray):Int:=if x=J6e then 0 else if x=J3z then 1 else -1
theorem J6y (w:World) (x:ByteArray) (hW:Words w) :
    Calls Tryz.prog 163 #[.slice (some ⟨0,0,none⟩) 2 2,.string x] w fun e w'=>e=.returned (.int .i64 (J4x x)) /\ w=w':=by
 obtain ⟨c0,c1⟩:=hW;have C0:=hid c0;have C1:=hid c1;clear c0 c1;have HE:Hid (J4x x=if x=J6e then 0 else if x=J3z then 1 else -1):=hid rfl
 go_enter Tryz.func163,Tryz.ntmps163;go_wp2
 go_loop [8] (fun i=>∃ k:Nat,k <= 2 /\ i=.int .i64 k /\ (0 < k -> x ≠ J6e) /\ (1 < k -> x ≠ J3z)) (fun i=>2 - (intOf i).toNat)
 case atStart=>exact ⟨0,by omega,rfl,fun h=>absurd h (by omega),fun h=>absurd h (by omega)⟩
 case round =>
  obtain ⟨k,hk,rfl,h0,h1⟩:=hrel;have H0:=hid h0;have H1:=hid h1;clear h0 h1
  rcases (by omega:k=0 ∨ k=1 ∨ k=2) with rfl | rfl | rfl
  . have c0:=C0.out
    by_cases hx:x=J6e
    . have hx1:=toList_eq open_list hx
      have HF:Hid (J4x x=0):=hid (by rw [HE.out,if_pos hx])
      clear hx;go_wp2;go_ret;exact ⟨by rw [HF.out]; rfl,rfl⟩
    . have hx1:=Z4b open_list hx
      have HX:=hid hx;clear hx;go_wp2;go_round
      case rel=>exact ⟨1,by omega,by go_num,fun _=>HX.out,fun h=>absurd h (by omega)⟩
      case measure=>simp [intOf]
  . have c1:=C1.out
    by_cases hx:x=J3z
    . have hx1:=toList_eq J2u hx
      have HF:Hid (J4x x=1):=hid (by rw [HE.out,if_neg (H0.out (by omega)),if_pos hx])
      clear hx;go_wp2;go_ret;exact ⟨by rw [HF.out]; rfl,rfl⟩
    . have hx1:=Z4b J2u hx
      have HX:=hid hx;clear hx;go_wp2;go_round
      case rel=>exact ⟨2,by omega,by go_num,fun _=>H0.out (by omega),fun _=>HX.out⟩
      case measure=>simp [intOf]
  . have HF:Hid (J4x x=-1):=hid (by rw [HE.out,if_neg (H0.out (by omega)),if_neg (H1.out (by omega))])
    go_wp2;go_ret;exact ⟨by rw [HF.out]; rfl,rfl⟩
theorem J7g (c:UInt8) (s:ByteArray):(J2q c s).length=Lib.countB s ⟨#[c]⟩ + 1:=by
 rw [<- J3r];exact Lib.splitB_all ⟨#[c]⟩ (Nat.le_refl 1) 0 _ s rfl
theorem J6s (w:World) (s:ByteArray) (c:UInt8) (hs:s.size <= 5000) (hm:J8d w) :
    Calls Tryz.prog 182 #[.string s,.string ⟨#[c]⟩] w fun e w'=>e=.returned (.slice (some ⟨w.heap.size,0,none⟩) (J2q c s).length (J2q c s).length) /\ w'=w.alloc (.cells ((J2q c s).map Value.string).toArray 9):=by
 obtain ⟨m,hm⟩:=hm;have h:=Tryz.strings_Split s ⟨#[c]⟩ m w (by omega) hm (Nat.le_refl 1)
 rw [J3r,<- J7g] at h;exact h
theorem J8e (x:ByteArray):(endOf (dat x)=none /\ J4x x=-1) ∨ (endOf (dat x)=some false /\ J4x x=0) ∨ (endOf (dat x)=some true /\ J4x x=1):=by
 unfold J4x
 by_cases h1:x=J6e
 . exact .inr (.inl ⟨J6l h1,if_pos h1⟩)
 . by_cases h2:x=J3z
   . exact .inr (.inr ⟨J6a h2,by rw [if_neg h1,if_pos h2]⟩)
   . exact .inl ⟨J5s h2 h1,by rw [if_neg h1,if_neg h2]⟩
def J8q (w:World) (g:Nat):Nat:=match w.cell? ⟨g,0,none⟩ with
 | some (.slice _ n _)=>n
 | _=>0
theorem J6h {w:World} {g n c:Nat} {a:Option Addr} {b:Value} {T:TypeId} (h:Blk w g T #[.slice a n c,b]):J8q w g=n:=by
 have:=h.cell 0;unfold J8q;rw [this]; rfl
def TkR (ws:List ByteArray) (k:Nat) (l:List Int) (b:Bool):Prop:=(b=false -> J3q ((ws.map dat).take k)=some l) /\ (b=true -> J3q ((ws.map dat).take k)=none)
theorem J8i {ws:List ByteArray} {k:Nat} {l:List Int} {b q:Bool} {d:Int} (h:TkR ws k l b) (hk:k < ws.length) (hq:(q=false /\ J2t (dat (wordAt ws k))=some d) ∨ (q=true /\ J2t (dat (wordAt ws k))=none)):TkR ws (k + 1) (l ++ [d]) (b || q):=by
 unfold TkR;rw [J6d hk]
 constructor
 . intro e
   rw [Bool.or_eq_false_iff] at e;rw [h.1 e.1]
   rcases hq with ⟨-,hq⟩ | ⟨h1,-⟩
   . rw [hq]; rfl
   . rw [h1] at e; cases e.2
 . intro e
   cases b with
   | true=>rw [h.2 rfl]; rfl
   | false =>
     rw [Bool.false_or] at e
     rcases hq with ⟨h1,-⟩ | ⟨-,hq⟩
     . rw [h1] at e; cases e
     . rw [hq]; cases J3q ((ws.map dat).take k) <;> rfl
end Go.Proofs
namespace Go.Proofs.YthnobngcipaljaaGreatDoor
open Go.ChangeShapes Go.WideShapes Go.ChangeAt Go.RowKit Go.Tw
def J6t:List (String × DataW Unit):=Rows.policyTextsRow.laid
theorem J5f {W:World} (h:laidMetH Tryz.prog J6t W):Words W:=by
 rw [MakeChecks.laidMetH_plain _ _ _ (by kernel_rfl)] at h
 obtain ⟨ps,⟨g0,t0,cs0,f0,p0,q0,hg0,ht0,hv0,hd0,⟨g1,t1,cs1,f1,p1,q1,hg1,ht1,hv1,hd1,⟨g2,t2,cs2,f2,p2,q2,hg2,ht2,hv2,hd2,⟨g3,t3,cs3,f3,p3,q3,hg3,ht3,hv3,hd3,⟨g4,t4,cs4,f4,p4,q4,hg4,ht4,hv4,hd4,_⟩,_⟩,_⟩,_⟩,_⟩,_,_⟩:=h;obtain rfl:=Option.some.inj ((show Tryz.prog.globalNamed (J6t[4]?.map (·.1)).get! = some 0 by kernel_rfl).symm.trans hg4)
 obtain ⟨t,ht⟩:∃ t,(Tryz.prog.globals[0]?).map (·.type)=some t:=⟨_,ht4⟩;obtain rfl:=Option.some.inj (ht.symm.trans ht4);have hty:(Tryz.prog.globals[0]?).map (·.type)=some 215:=by kernel_rfl
 obtain rfl:=Option.some.inj (hty.symm.trans ht);obtain ⟨xs,m,_,hx,hlen,hxl,hel⟩:=DataW.trod_array Tryz.underlying215 hd4;rw [Tryz.cS] at hel;have hm:xs.map (·.1)=[.lit (.string [111,112,101,110]),.lit (.string [99,108,111,115,101])]:=by
  have:=congrArg Prod.fst hx;simp only [Rows.laid_tideway_policy_words] at this;injection this with this;exact this.symm
 obtain ⟨x0,x1,rfl⟩:∃ a b,xs=[a,b]:=by
  match xs,hxl with
  | [a,b],_=>exact ⟨a,b,rfl⟩
 simp only [List.map_cons,List.map_nil,List.cons.injEq,and_true] at hm;obtain ⟨hx0,hx1⟩:=hm;obtain ⟨s0,hc0,rfl,_⟩:=DataW.trod_string Tryz.underlying9 (hel 0 (by decide))
 obtain ⟨s1,hc1,rfl,_⟩:=DataW.trod_string Tryz.underlying9 (hel 1 (by decide))
 have e0:s0=⟨#[111,112,101,110]⟩:=by
  simp only [DataW.lit.injEq,Lit.string.injEq] at hx0;obtain ⟨d⟩:=s0;obtain ⟨l⟩:=d;have h:l=[111,112,101,110]:=hx0;rw [h]
 have e1:s1=⟨#[99,108,111,115,101]⟩:=by
  simp only [DataW.lit.injEq,Lit.string.injEq] at hx1;obtain ⟨d⟩:=s1;obtain ⟨l⟩:=d;have h:l=[99,108,111,115,101]:=hx1;rw [h]
 subst e0 e1;obtain ⟨l4⟩:=cs4;have hl2:l4.length=2:=by
  have h:=hlen;rw [show Tryz.prog.cellsOf 215=2 from by kernel_rfl] at h
  exact h
 obtain ⟨c0,c1,rfl⟩:∃ a b,l4=[a,b]:=by
  match l4,hl2 with
  | [a,b],_=>exact ⟨a,b,rfl⟩
 simp at hc0 hc1;subst hc0 hc1;exact ⟨by rw [World.var?_cell hg4 hv4 0]; rfl,by rw [World.var?_cell hg4 hv4 1]; rfl⟩
theorem J5u {W:World} (h:W.ShapedOpen Tryz.prog):J8d W :=
 cell_of_shapedOpen_int (zero:=#[.int .i64 0]) (t:=3) h (of_decide_eq_true (by kernel_rfl)) (by kernel_rfl) rfl (by kernel_rfl) (by kernel_rfl) Tryz.underlying3
theorem J8x {H:Type} {enc:TypeId × Value -> H} {a:Assume} {C:Checked} {os:Os} {f:FuncId} {fn:Func} {s:ChangeSpec} {conds:List PathCond} {apart fresh handsOn again:Bool} {X:World -> Array Value -> Prop}
    (hX:∀ (w w':World) (args:Array Value),w.heap=w'.heap -> X w args -> X w' args) (own:ownKnob C.prog.godebug=none) (started:os.Started) (hi:C.prog.inits.idxOf? f=none) (hf:C.prog.funcs[f]?=some fn)
    (wit:∃ (w:World) (tape:Tape) (i:Input),w.os=os /\ (w.forCall tape i).Shaped C.prog /\ i.vars=[] /\ Input.okWide C.prog (w.forCall tape i) .any w.heap.size f i /\
     ((s.pre enc C.prog fn conds apart (w.forCall tape i).memory i.args /\ X (w.forCall tape i).memory i.args) /\ sizedMet enc C.prog fn (OpenSpec.ofChange s) apart (w.forCall tape i).memory i.args) /\ a.holds C.prog (lone (Frame.enter C.prog f i.args .normal) [] (w.forCall tape i)))
    (con:∀ (W:World) (base:Nat) (args:Array Value) (ds gs:List (DataW H)) (before:List MemPlace),(∀ (j:Nat) t v,fn.params[j]?=some t -> args[j]?=some v -> Value.okWide C.prog W .any base t v) ->
     DataW.Whole enc C.prog fn.params.toList s.vars apart W args.toList ds gs before -> conds.all (PathCond.test C.prog ⟨fn.params.toList,ds,s.plain.varTypes C.prog,gs⟩)=true ->
     (DataW.weightsEach C.prog (fn.params.toList ++ s.plain.varTypes C.prog) (ds ++ gs)).all (· <= reachBytes)=true -> X W args -> W.ShapedOpen C.prog ->
     a.holds C.prog (lone (Frame.enter C.prog f args .normal) [] W) -> Calls C.prog f args W fun e W'=>∃ v,e=.returned v /\ s.post enc C.prog fn apart fresh handsOn again W args v W') :
    ReturnsInHanded a C os f .any (fun w args=>(s.pre enc C.prog fn conds apart w args /\ X w args) /\ sizedMet enc C.prog fn (OpenSpec.ofChange s) apart w args) (s.post enc C.prog fn apart fresh handsOn again):=by
 refine returnsInHanded_of_calls own started hi wit fun w tape i _ hsh _ hok hpre hh=>?_;obtain ⟨_,_,_,fn',hf',_,_,_,_,hval⟩:=hok;obtain rfl:fn'=fn:=Option.some.inj (hf'.symm.trans hf);obtain ⟨⟨⟨ds,gs,bf,hw,hc⟩,hx⟩,hz⟩:=hpre;refine (con _ w.heap.size i.args ds gs bf hval (DataW.Whole.of_heap (w':=w.forCall tape i) (by rfl) hw) hc (hz.weights hw) (hX _ _ _ (by rfl) hx) hsh hh).mono fun e W' ⟨v,he,hp⟩=>?_
 subst he;exact ChangeSpec.post_blind hp
end Go.Proofs.YthnobngcipaljaaGreatDoor
namespace Go.Proofs
open Go.RowKit Go.Tw Go.ChangeShapes Go.WideShapes Go.Deep
section
variable {H:Type} {enc:TypeId × Value -> H} {W:World}
theorem Tryz.cPl:Tryz.prog.cellsOf 47=1:=by kernel_rfl
theorem J5a {b0:Nat} {v:Value} {d:DataW H} {ps:List MemPlace} (hv:Value.okWide Tryz.prog W .any b0 47 v) (h:DataW.Trod enc Tryz.prog W 0 (fun _=>true) true 47 v d ps) (hw:X2y 47 d):∃ t,Q0w W v t:=by
 obtain ⟨cs,rfl,hsz⟩:=okWide_struct Tryz.underlying47 hv;rw [Tryz.cPl] at hsz;obtain ⟨c0,rfl⟩:∃ a,cs=#[a]:=by
  obtain ⟨l⟩:=cs
  match l,hsz with
  | [a],_=>exact ⟨a,rfl⟩
 obtain ⟨fuel,hf⟩:=h;obtain ⟨y0,m,hx,_,h0⟩:=trod_struct1 Tryz.underlying47 hf;simp only [Prod.mk.injEq] at hx;obtain ⟨rfl,_⟩:=hx;have hw2:∀ x ∈ DataW.weightsEach Tryz.prog [45] [y0.1],x <= 140737488351232:=fun x hx=>hw x (by simpa [DataW.weights,Tryz.underlying47] using hx)
 obtain ⟨w0,_⟩:=Q4u hw2;have e2:Tryz.prog.cellsOf 45=1:=by kernel_rfl
 have h0':DataW.trod enc Tryz.prog W 0 (fun _=>true) true m 45 [c0]=some y0:=by simpa [e2,Value.cells] using h0
 obtain ⟨b,hb⟩:=J5l h0' w0;exact ⟨b,_,rfl,hb⟩
end
end Go.Proofs
