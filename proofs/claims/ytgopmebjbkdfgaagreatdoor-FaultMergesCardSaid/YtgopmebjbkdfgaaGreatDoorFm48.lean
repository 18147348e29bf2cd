/- An append that may be carried out ahead of or behind others in a region: in the room of its block, or into a new one. -/
import Derived.Test.YtgopmebjbkdfgaaGreatDoorFm47
import Derived.ArgAppend
set_option maxRecDepth 1000000
set_option maxHeartbeats 64000000
set_option linter.unusedVariables false
set_option linter.unusedSimpArgs false
set_option linter.constructorNameAsVariable false
namespace Go.Proofs
open Go.RowKit Go.Tw Go.Flow
structure X2l (gx:Nat) (T:Array Value) (w w':World):Prop where
 os:w'.os = w.os
 tape:w'.tape = w.tape
 output:w'.output = w.output
 size:w.heap.size <= w'.heap.size
 block:∀ k,k < w.heap.size -> k ≠ gx -> w'.heap[k]? = w.heap[k]?
 spot:gx < w.heap.size -> w'.heap[gx]? = w.heap[gx]? ∨ w'.heap[gx]? = some (.cells T 97 (0,0))
theorem X2l.refl (gx:Nat) (T:Array Value) (w:World):X2l gx T w w:=⟨rfl,rfl,rfl,Nat.le_refl _,fun _ _ _=>rfl,fun _=>.inl rfl⟩
theorem X2l.trans {gx:Nat} {T:Array Value} {a b c:World} (h:X2l gx T a b) (k:X2l gx T b c):X2l gx T a c :=
 ⟨k.os.trans h.os,k.tape.trans h.tape,k.output.trans h.output,Nat.le_trans h.size k.size,fun i hi hne=>(k.block i (Nat.lt_of_lt_of_le hi h.size) hne).trans (h.block i hi hne),fun hg=>by
  rcases k.spot (Nat.lt_of_lt_of_le hg h.size) with e | e
  . rcases h.spot hg with e2 | e2
    . exact .inl (e.trans e2)
    . exact .inr (e.trans e2)
  . exact .inr e⟩
theorem X2l.ext {gx:Nat} {T:Array Value} {w w':World} (h:Ext w w'):X2l gx T w w':=⟨h.os,h.tape,h.output,h.size,fun k hk _=>h.block k hk,fun hg=>.inl (h.block gx hg)⟩
theorem X2l.below {gx B:Nat} {T:Array Value} {w w':World} (h:X2l gx T w w') (hB:B <= gx) (hw:B <= w.heap.size):Below B w w':=⟨h.os,h.tape,h.output,h.size,fun k hk=>h.block k (by omega) (by omega)⟩
theorem X2l.blk {gx b:Nat} {T:Array Value} {S:TypeId} {cs:Array Value} {w w':World} (h:X2l gx T w w') (hb:Blk w b S cs) (hne:b ≠ gx):Blk w' b S cs:=by
 have hl:=hb.lt;unfold Blk at *;rw [h.block b hl hne]; exact hb
theorem X2l.keep {gx:Nat} {T c0:Array Value} {w w':World} (h:X2l gx T w w') (hg:Blk w gx 97 c0):Keep 97 w w':=fun _ _ _ hS hb=>h.blk hb (Q2a hb hg hS)
def Q4 (gx:Nat) (T:Array Value) (B0 n:Nat) (L:List (ByteArray × Int × Value)) (w:World) (v:Value):Prop :=
 gx < w.heap.size /\ ∃ bo co,v = .slice bo n co /\ Q1d w B0 97 3 enc3 (.slice bo n co) L /\ ((v.ownBlock = some gx /\ w.heap[gx]? = some (.cells T 97 (0,0))) ∨ v.ownBlock ≠ some gx)
theorem Q4.rel {gx B0 n:Nat} {T:Array Value} {L:List (ByteArray × Int × Value)} {w w':World} {v:Value} (h:Q4 gx T B0 n L w v) (hr:X2l gx T w w'):Q4 gx T B0 n L w' v:=by
 obtain ⟨hg,bo,co,rfl,ho,hs⟩:=h;have hs':∀ g,(Value.slice bo n co).ownBlock = some g -> g < w.heap.size -> w'.heap[g]? = w.heap[g]?:=fun g hv hl=>by
  rcases hs with ⟨h1,h2⟩ | h1
  . rw [h1] at hv
    cases hv
    rcases hr.spot hg with e | e
    . exact e
    . rw [e,h2]
  . exact hr.block g hl (fun e=>h1 (by rw [hv,e]))
 refine ⟨Nat.lt_of_lt_of_le hg hr.size,bo,co,rfl,?_,?_⟩
 . obtain ⟨h1,h2⟩:=ho
   refine ⟨h1,?_⟩
   rcases h2 with h2 | ⟨g,cap,cur,hv,hb,hgl,r⟩
   . exact .inl h2
   . exact .inr ⟨g,cap,cur,hv,hb,by rw [hs' g (by rw [hv]; rfl) (Array.getElem?_eq_some_iff.1 hgl).1]; exact hgl,r⟩
 . rcases hs with ⟨h1,h2⟩ | h1
   . refine .inl ⟨h1,?_⟩
     rw [hs' gx h1 hg]; exact h2
   . exact .inr h1
def Y0c (c0:Array Value) (n m cap:Nat) (news:List Value):Array Value:=if n + m <= cap then (c0.toList.take (n * 3) ++ news ++ c0.toList.drop (n * 3 + news.length)).toArray else c0
theorem Y7c {l news:List Value} {n:Nat} (h:n + news.length <= l.length) :
    (l.take n ++ news ++ l.drop (n + news.length)).take n ++ news ++ (l.take n ++ news ++ l.drop (n + news.length)).drop (n + news.length) = l.take n ++ news ++ l.drop (n + news.length):=by
 have e1:(l.take n).length = n:=by rw [List.length_take]; omega
 have e2:(l.take n ++ news).length = n + news.length:=by rw [List.length_append,e1]
 rw [List.drop_left' e2,List.append_assoc (l.take n) news,List.take_left' e1,List.append_assoc]
theorem Y0l {P:Program} {K:Value -> World -> Prop} {o:Oper} {a:Act} {W w:World} (s x:Operand) (t:TypeId) (ho:o.op = .call { callee:=.builtin .append,args:=#[s,x],argTypes:=#[t,t] })
    (B0 gx n cap bytes:Nat) (c0:Array Value) (i:TypeInfo) (z:Value) (ht:P.underlying t = some (.slice 97)) (hi:P.info? 97 = some i) (hz:i.zero = some z) (hsize:i.size = 3) (hby:i.bytes = bytes) (hzs:z.cells.size = 3)
    (xs ys:List (ByteArray × Int × Value)) (hs:a.eval s = .slice (some ⟨gx,0,none⟩) n cap) (ad:Addr) (c:Nat) (hx:a.eval x = .slice (some ad) ys.length c)
    (hW:W.heap[gx]? = some (.cells c0 97 (0,0))) (hb0:B0 <= gx) (hn:n = xs.length) (hnc:n <= cap) (hcm:cap <= maxLen) (hcs:c0.size = cap * 3) (htk:c0.toList.take (n * 3) = xs.flatMap enc3)
    (hr:X2l gx (Y0c c0 n ys.length cap (ys.flatMap enc3)) W w) (hnews:∀ j u,(ys.flatMap enc3)[j]? = some u -> w.cell? (ad.add j) = some u) (h1:∀ u ∈ ys.flatMap enc3,u.oneCell' = true)
    (h63:n + ys.length <= 100000) (hb:bytes <= 1000)
    (h:∀ v' w',X2l gx (Y0c c0 n ys.length cap (ys.flatMap enc3)) w w' -> Q4 gx (Y0c c0 n ys.length cap (ys.flatMap enc3)) B0 (n + ys.length) (xs ++ ys) w' v' -> K v' w'):gives P K ((execOp a.eval o).run P w):=by
 have hgW:gx < W.heap.size:=(Array.getElem?_eq_some_iff.1 hW).1;have hgw:gx < w.heap.size:=Nat.lt_of_lt_of_le hgW hr.size;have hly:(ys.flatMap enc3).length = ys.length * 3:=Q4a Q0o ys;have hlx:(xs.flatMap enc3).length = n * 3:=by rw [hn]; exact Q4a Q0o xs
 unfold execOp;simp only [ho,resolve,invoke,builtin,Sem.run_bind,Sem.run_pure,Result.andThen_ok,List.map_toArray,List.map_cons,List.map_nil,hs,hx]
 by_cases hroom:n + ys.length <= cap
 . have eT:Y0c c0 n ys.length cap (ys.flatMap enc3) = (c0.toList.take (n * 3) ++ ys.flatMap enc3 ++ c0.toList.drop (n * 3 + (ys.flatMap enc3).length)).toArray:=by unfold Y0c; rw [if_pos hroom]
   have e3:c0.toList.length = cap * 3:=hcs;have hfit0:n * 3 + (ys.flatMap enc3).length <= c0.toList.length:=by rw [hly,<- Nat.add_mul,e3]; exact Nat.mul_le_mul_right _ hroom
   obtain ⟨T,hT⟩:∃ T,Y0c c0 n ys.length cap (ys.flatMap enc3) = T:=⟨_,rfl⟩;rw [hT] at hr h eT;have step:∀ cur:Array Value,w.heap[gx]? = some (.cells cur 97 (0,0)) -> (cur.toList.take (n * 3) ++ ys.flatMap enc3 ++ cur.toList.drop (n * 3 + (ys.flatMap enc3).length)).toArray = T -> cur.size = cap * 3 ->
       gives P K (((Builtin.append_ #[t,t] o.type #[.slice (some ⟨gx,0,none⟩) n cap,.slice (some ad) ys.length c]).run P w).andThen fun r w=>(pure (Next.value r):Sem Next).run P w):=by
    intro cur hcur hcT hsz;have hrun:=run_append_room (P:=P) (w:=w) t o.type 97 i ht hi gx n cap cur hcur ad ys.length c (ys.flatMap enc3) (by rw [hsize]; exact hly) hnews h1 hroom (by rw [hsize,hly,<- Nat.add_mul,hsz]; exact Nat.mul_le_mul_right _ hroom)
    rw [hsize,hcT] at hrun;rw [hrun];have hh:=setRow_heap w gx cur T 97 _ hcur;refine h _ _ ⟨rfl,rfl,rfl,by simp,fun k _ hk=>setRow_other w gx k _ hk,fun _=>.inr hh⟩ ⟨by simpa using hgw,some ⟨gx,0,none⟩,cap,rfl,⟨?_,.inr ⟨gx,cap,T,by rw [List.length_append,<- hn],hb0,hh,?_,hcm,?_,?_⟩⟩,.inl ⟨rfl,hh⟩⟩
    . rw [Q4a Q0o]
    . rw [List.length_append,<- hn]; exact hroom
    . rw [eT]
      simp only [List.size_toArray,List.length_append,List.length_take,List.length_drop,e3];rw [e3] at hfit0;omega
    . rw [eT,htk,List.length_append,List.flatMap_append,<- hn]
      show ((xs.flatMap enc3 ++ ys.flatMap enc3) ++ _).take _ = _;rw [List.take_left' (by rw [List.length_append,hlx,hly]; omega)]
   rcases hr.spot hgW with e | e
   . rw [hW] at e
     exact step c0 e eT.symm hcs
   . refine step T e ?_ ?_
     . rw [eT]
       show (_:List Value).toArray = _;rw [show ∀ l:List Value,l.toArray.toList = l from fun l=>rfl,Y7c hfit0]
     . rw [eT]
       simp only [List.size_toArray,List.length_append,List.length_take,List.length_drop,e3];rw [e3] at hfit0;omega
 . have eT:Y0c c0 n ys.length cap (ys.flatMap enc3) = c0:=by unfold Y0c; rw [if_neg hroom]
   rw [eT] at hr h;have hcur:w.heap[gx]? = some (.cells c0 97 (0,0)):=by
    rcases hr.spot hgW with e | e
    . rw [e,hW]
    . exact e
   have hbl:Blk w gx 97 c0:=hcur;have hbytes:(n + ys.length) * bytes <= 140737488355328:=by
    have:(n + ys.length) * bytes <= 100000 * 1000:=Nat.mul_le_mul h63 hb;omega
   obtain ⟨v',w',hrun,h2,h3⟩:=run_append_arg_grows (P:=P) (w:=w) t o.type 97 i z 3 bytes ht hi hz hsize hby hzs (by decide) ⟨gx,0,none⟩ n cap (xs.flatMap enc3) hlx (fun j u hj=>by
    have hjl:j < n * 3:=by rw [<- hlx]; exact (List.getElem?_eq_some_iff.1 hj).1
    rw [addr_add,Nat.zero_add,hbl.cell,<- hj,<- htk,List.getElem?_take,if_pos hjl,Array.getElem?_toList]) ad ys.length c (ys.flatMap enc3) hly hnews (by omega) (by unfold maxLen; omega) hbytes
   rw [hrun];have hown:Q1d w' w.heap.size 97 3 enc3 v' (xs ++ ys):=by
    unfold Q1d;rw [List.length_append,List.flatMap_append,<- hn];exact h2
   obtain ⟨bo,co,hsh,_⟩:=hown.shape;rw [List.length_append,<- hn] at hsh;have hext:Ext w w':=Below.grown (Below.refl _ _) h3 (Nat.le_refl _) (fun j hj=>by cases hj)
   refine h _ _ (X2l.ext hext) ⟨Nat.lt_of_lt_of_le hgw hext.size,bo,co,hsh,?_,.inr fun e=>?_⟩
   . rw [<- hsh]
     exact Q2q hown (by omega)
   . have:=(hown.lt gx e).1
     omega
end Go.Proofs
