/- Contracts of the reference: IsName, CheckName, HasWord, checkGate. Seasons and policies as data, and what the values of the Go types read as. What the functions of chapter 5 come to, in plain lists and numbers: no program is in sight here. Plain law: any list that ascends strictly and has just the histories of the members is the reference's list of histories. Plain law: the program's plans are policies, and no policy does better than all of them. What a tree without an error is like. What a season without an error is like. -/
import Derived.Test.YthnobngcipaljaaGreatDoorPp03
import Derived.Test.YthnobngcipaljaaGreatDoorPp01
set_option maxRecDepth 1000000
set_option maxHeartbeats 64000000
set_option linter.unusedVariables false
set_option linter.unusedSimpArgs false
set_option linter.constructorNameAsVariable false
open Go.Lib (hid)
namespace Go.Proofs
open Go.RowKit Go.Tw Go.Flow
theorem Z0o (w:World) (s:ByteArray) (hs:Short s) :
    Calls Tryz.prog 156 #[.string s] w fun e w'=>e=.returned (.bool (nameB s)) /\ w=w':=by
 unfold Short at hs;have hsz:s.data.toList.length=s.size:=by simp
 by_cases hz:s.size=0
 . have HR:Hid (nameB s=false):=by
    rw [Q1j];have:s.data.toList=[]:=List.length_eq_zero_iff.1 (by omega)
    rw [this]; exact rfl
   have hz':((s.size:Int) == 0)=true:=by rw [beq_iff_eq]; omega
   clear hz hsz;go_enter Tryz.func156,Tryz.ntmps156;go_wp2;go_ret;exact ⟨Q0u HR.out.symm,rfl⟩
 . have hz':((s.size:Int) == 0)=false:=by rw [beq_eq_false_iff_ne]; omega
   by_cases hb:24 < s.size
   . have HR:Hid (nameB s=false):=by
      rw [Q1j,show decide (s.data.toList.length <= 24)=false from decide_eq_false (by omega)]
      rw [Bool.and_false,Bool.and_false]; exact rfl
     have hb':(24:Int) < (s.size:Int):=by omega
     clear hz hsz;go_enter Tryz.func156,Tryz.ntmps156;go_wp2;go_ret;exact ⟨Q0u HR.out.symm,rfl⟩
   . have HR:Hid (nameB s=Q1f true s.data.toList):=by
      rw [Q1j,show decide (s.data.toList.length <= 24)=true from decide_eq_true (by omega),show decide (s.data.toList ≠ [])=true from decide_eq_true (fun e=>hz (by rw [<- hsz,e]; rfl))]
      rw [Bool.and_true,Bool.and_true]; exact rfl
     have HSZ:=hid hsz;have hb':¬ (24:Int) < (s.size:Int):=by omega
     clear hz hsz;go_enter Tryz.func156,Tryz.ntmps156;go_wp2
     go_loop [3] (fun i=>∃ k:Nat,k <= s.size /\ i=.int .i64 k /\ Q1f (k == 0) (s.data.toList.drop k)=Q1f true s.data.toList) (fun i=>s.size - (intOf i).toNat)
     case atStart=>exact ⟨0,Nat.zero_le _,rfl,rfl⟩
     case round =>
      obtain ⟨k,hk,rfl,hc⟩:=hrel;have HC:=hid hc; clear hc
      by_cases hlt:k < s.size
      . have HB:=hid (Y6v s k hlt)
        have HL:=hid (X8x (s[k]'hlt));have HO:=hid (Y1c (s[k]'hlt));have hcl:(65 <= (s[k]'hlt).toNat /\ (s[k]'hlt).toNat <= 90) ∨ (97 <= (s[k]'hlt).toNat /\ (s[k]'hlt).toNat <= 122) ∨ (48 <= (s[k]'hlt).toNat /\ (s[k]'hlt).toNat <= 57) ∨ (s[k]'hlt).toNat=95 ∨ (s[k]'hlt).toNat < 48 ∨ (58 <= (s[k]'hlt).toNat /\ (s[k]'hlt).toNat < 65) ∨ (91 <= (s[k]'hlt).toNat /\ (s[k]'hlt).toNat < 97 /\ (s[k]'hlt).toNat ≠ 95) ∨ 123 <= (s[k]'hlt).toNat:=by omega
        have hdef:((s[k]'hlt).toNat:Int)=95 ∨ ¬ ((s[k]'hlt).toNat:Int)=95:=by omega
        have go (b1 b2:Bool) (hl:Q1l (s[k]'hlt)=b1) (ho:Q3j (s[k]'hlt)=b2):Q1f (k == 0) (s.data.toList.drop k)=((b1 || (!(k == 0) && b2)) && Q1f false (s.data.toList.drop (k + 1))):=by
         rw [HB.out,Q1f,hl,ho]
        have GO:=hid go;clear go
        rcases hcl with hcl | hcl | hcl | hcl | hcl | hcl | hcl | hcl
        case inl | inr.inl =>
         all_goals
          have HX:Hid (Q1l (s[k]'hlt)=true):=by
           exact (by rw [HL.out]; simp; omega:Q1l (s[k]'hlt)=true)
          have f0:decide (97 <= ((s[k]'hlt).toNat:Int))=decide (97 <= (s[k]'hlt).toNat):=by rw [decide_eq_decide]; omega
          have f1:(65:Int) <= ((s[k]'hlt).toNat:Int):=by omega
          have f2:((s[k]'hlt).toNat:Int) <= 122:=by omega
          first | (have f3:((s[k]'hlt).toNat:Int) <= 90:=by omega) | (have f3:(97:Int) <= ((s[k]'hlt).toNat:Int):=by omega)
          first | (have f4:¬ (97:Int) <= ((s[k]'hlt).toNat:Int):=by omega) | skip
          clear hcl hdef f0;go_wp2;go_round
          case rel=>exact ⟨k + 1,by omega,by go_num,by rw [<- HC.out,GO.out _ _ HX.out rfl,Bool.true_or,Bool.true_and]; rfl⟩
          case measure=>simp [intOf]; omega
        case inr.inr.inl | inr.inr.inr.inl =>
         all_goals
          have HX:Hid (Q1l (s[k]'hlt)=false /\ Q3j (s[k]'hlt)=true):=by
           exact (by rw [HL.out,HO.out]; simp; omega:Q1l (s[k]'hlt)=false /\ Q3j (s[k]'hlt)=true)
          have f1:¬ (97:Int) <= ((s[k]'hlt).toNat:Int):=by omega
          first | (have f2:¬ (65:Int) <= ((s[k]'hlt).toNat:Int):=by omega) | (have f2:(65:Int) <= ((s[k]'hlt).toNat:Int):=by omega)
          have f3:(¬ ((s[k]'hlt).toNat:Int) <= 90) ∨ ((s[k]'hlt).toNat:Int) <= 90:=by omega
          first | (have f4:¬ ((s[k]'hlt).toNat:Int) <= 90:=by omega) | skip
          first | (have f5:(((s[k]'hlt).toNat:Int) != 95)=false:=by rw [bne_eq_false_iff_eq]; omega) | (have f5:(((s[k]'hlt).toNat:Int) != 95)=true:=by rw [bne_iff_ne]; omega)
          first | (have f6:¬ ((s[k]'hlt).toNat:Int) < 48:=by omega) | skip
          first | (have f7:¬ (57:Int) < ((s[k]'hlt).toNat:Int):=by omega) | skip
          clear hcl hdef f3
          by_cases h0:k=0
          . subst h0
            go_wp2;go_ret;exact ⟨Q0u (by rw [HR.out,<- HC.out,GO.out _ _ HX.out.1 HX.out.2]; rfl),rfl⟩
          . have h0':(((k:Nat):Int) == 0)=false:=by rw [beq_eq_false_iff_ne]; omega
            have HK:Hid ((k == 0)=false):=hid (by rw [beq_eq_false_iff_ne]; omega)
            clear h0;go_wp2;go_round
            case rel=>exact ⟨k + 1,by omega,by go_num,by rw [<- HC.out,GO.out _ _ HX.out.1 HX.out.2,HK.out]; rfl⟩
            case measure=>simp [intOf]; omega
        all_goals
         have HX:Hid (Q1l (s[k]'hlt)=false /\ Q3j (s[k]'hlt)=false):=by
          exact (by rw [HL.out,HO.out]; simp; omega:Q1l (s[k]'hlt)=false /\ Q3j (s[k]'hlt)=false)
         first | (have f1:¬ (97:Int) <= ((s[k]'hlt).toNat:Int):=by omega) | (have f1:(97:Int) <= ((s[k]'hlt).toNat:Int):=by omega)
         first | (have f2:¬ (65:Int) <= ((s[k]'hlt).toNat:Int):=by omega) | (have f2:(65:Int) <= ((s[k]'hlt).toNat:Int):=by omega)
         first | (have f3:¬ ((s[k]'hlt).toNat:Int) <= 122:=by omega) | skip
         first | (have f4:¬ ((s[k]'hlt).toNat:Int) <= 90:=by omega) | skip
         have f5:(((s[k]'hlt).toNat:Int) != 95)=true:=by rw [bne_iff_ne]; omega
         first | (have f6:((s[k]'hlt).toNat:Int) < 48:=by omega) | (have f6:¬ ((s[k]'hlt).toNat:Int) < 48:=by omega)
         first | (have f7:(57:Int) < ((s[k]'hlt).toNat:Int):=by omega) | skip
         clear hcl hdef
         by_cases h0:k=0
         . subst h0
           go_wp2;go_ret;exact ⟨Q0u (by rw [HR.out,<- HC.out,GO.out _ _ HX.out.1 HX.out.2]; rfl),rfl⟩
         . have h0':(((k:Nat):Int) == 0)=false:=by rw [beq_eq_false_iff_ne]; omega
           clear h0;go_wp2;go_ret;exact ⟨Q0u (by rw [HR.out,<- HC.out,GO.out _ _ HX.out.1 HX.out.2]; simp),rfl⟩
      . go_wp2
        go_ret;exact ⟨Q0u (by rw [HR.out,<- HC.out,List.drop_eq_nil_of_le (by rw [HSZ.out]; omega)]; rfl),rfl⟩
end Go.Proofs
namespace Go.Tw
open Go.RowKit
structure Mem where
 name:ByteArray
 weight:Int
 classes:List Int
 outside:List Int
 inflow:List Int
structure Q0b where
 limit:Int
 ships:List Int
 members:List Mem
structure Rul where
 classes:List Int
 close:Bool
structure Grp where
 members:List Int
 weight:Int
instance:Inhabited Mem:=⟨⟨⟨#[]⟩,0,[],[],[]⟩⟩
instance:Inhabited Rul:=⟨⟨[],false⟩⟩
instance:Inhabited Grp:=⟨⟨[],0⟩⟩
def J0b (w:World) (c:Nat -> Value) (x:Mem):Prop:=c 0=.string x.name /\ c 1=.int .i64 x.weight /\ Q0d w (c 2) x.classes /\ Q0d w (c 3) x.outside /\ Q0d w (c 4) x.inflow /\ Short x.name
def Z9c (w:World) (c:Nat -> Value) (x:Rul):Prop:=Q0d w (c 0) x.classes /\ c 1=.bool x.close
def J0e (w:World) (c:Nat -> Value) (x:Grp):Prop:=Q0d w (c 0) x.members /\ c 1=.int .i64 x.weight
theorem J0b.ext (w w':World) (c:Nat -> Value) (x:Mem) (hx:Ext w w') (h:J0b w c x):J0b w' c x:=⟨h.1,h.2.1,h.2.2.1.ext hx,h.2.2.2.1.ext hx,h.2.2.2.2.1.ext hx,h.2.2.2.2.2⟩
theorem Z9c.ext (w w':World) (c:Nat -> Value) (x:Rul) (hx:Ext w w') (h:Z9c w c x):Z9c w' c x:=⟨h.1.ext hx,h.2⟩
theorem J0e.ext (w w':World) (c:Nat -> Value) (x:Grp) (hx:Ext w w') (h:J0e w c x):J0e w' c x:=⟨h.1.ext hx,h.2⟩
def Q8h:World -> Value -> List Mem -> Prop:=Rows 5 J0b
def Q3m:World -> Value -> List Rul -> Prop:=Rows 2 Z9c
def Q4j:World -> Value -> List Grp -> Prop:=Rows 2 J0e
theorem Q8h.ext {w w':World} {v:Value} {l:List Mem} (h:Q8h w v l) (hx:Ext w w'):Q8h w' v l:=Rows.ext J0b.ext h hx
theorem Q3m.ext {w w':World} {v:Value} {l:List Rul} (h:Q3m w v l) (hx:Ext w w'):Q3m w' v l:=Rows.ext Z9c.ext h hx
theorem Q4j.ext {w w':World} {v:Value} {l:List Grp} (h:Q4j w v l) (hx:Ext w w'):Q4j w' v l:=Rows.ext J0e.ext h hx
structure Q7y (w:World) (a b:Value) (s:Q0b):Prop where
 ships:Q0d w a s.ships
 members:Q8h w b s.members
theorem Q7y.ext {w w':World} {a b:Value} {s:Q0b} (h:Q7y w a b s) (hx:Ext w w'):Q7y w' a b s:=⟨h.ships.ext hx,h.members.ext hx⟩
def Q0h (w:World) (v:Value) (s:Q0b):Prop:=∃ a b,v=.agg #[.int .i64 s.limit,a,b] /\ Q7y w a b s
theorem Q0h.ext {w w':World} {v:Value} {s:Q0b} (h:Q0h w v s) (hx:Ext w w'):Q0h w' v s:=let ⟨a,b,hv,h2⟩:=h; ⟨a,b,hv,h2.ext hx⟩
def Q0w (w:World) (v:Value) (p:List Rul):Prop:=∃ a,v=.agg #[a] /\ Q3m w a p
theorem Q0w.ext {w w':World} {v:Value} {p:List Rul} (h:Q0w w v p) (hx:Ext w w'):Q0w w' v p:=let ⟨a,hv,h2⟩:=h; ⟨a,hv,h2.ext hx⟩
def Q1h (l:List Mem) (k:Nat):ByteArray:=(l.getD k default).name
def Q0i (l:List Mem) (k:Nat):Int:=(l.getD k default).weight
def Q0c (l:List Mem) (k:Nat):List Int:=(l.getD k default).classes
def Q0t (l:List Mem) (k:Nat):List Int:=(l.getD k default).outside
def Q0y (l:List Mem) (k:Nat):List Int:=(l.getD k default).inflow
def Q0n (l:List Rul) (k:Nat):List Int:=(l.getD k default).classes
def Q3p (l:List Rul) (k:Nat):Bool:=(l.getD k default).close
def Q5i (l:List Grp) (k:Nat):List Int:=(l.getD k default).members
def Q8d (l:List Grp) (k:Nat):Int:=(l.getD k default).weight
theorem Q8h.opened {w:World} {v:Value} {l:List Mem} (h:Q8h w v l) :
    ∃ A cap,v=.slice A l.length cap /\ l.length <= 17592186043904 /\ l.length <= cap /\ ∀ k,k < l.length -> ∃ b off x y z,A=some ⟨b,off,none⟩ /\ b < w.heap.size /\
     w.cell? ⟨b,off + k * 5,none⟩=some (.string (Q1h l k)) /\ w.cell? ⟨b,off + k * 5 + 1,none⟩=some (.int .i64 (Q0i l k)) /\
     w.cell? ⟨b,off + k * 5 + 2,none⟩=some x /\ w.cell? ⟨b,off + k * 5 + 3,none⟩=some y /\ w.cell? ⟨b,off + k * 5 + 4,none⟩=some z /\
     Q0d w x (Q0c l k) /\ Q0d w y (Q0t l k) /\ Q0d w z (Q0y l k) /\ Short (Q1h l k):=by
 obtain ⟨c,⟨A,cap,hv,hn,hcap,hc⟩,h2⟩:=h;refine ⟨A,cap,hv,hn,hcap,fun k hk=>?_⟩;obtain ⟨b,off,hA,h0⟩:=hc (k * 5) (by omega)
 obtain ⟨b',off',hA',h1⟩:=hc (k * 5 + 1) (by omega)
 rw [hA] at hA'; cases hA';obtain ⟨b',off',hA',h3⟩:=hc (k * 5 + 2) (by omega)
 rw [hA] at hA'; cases hA';obtain ⟨b',off',hA',h4⟩:=hc (k * 5 + 3) (by omega)
 rw [hA] at hA'; cases hA';obtain ⟨b',off',hA',h5⟩:=hc (k * 5 + 4) (by omega)
 rw [hA] at hA'; cases hA';obtain ⟨e0,e1,e2,e3,e4,e5⟩:=h2 k hk;simp only [Nat.add_zero] at e0 e1;refine ⟨b,off,c (k * 5 + 2),c (k * 5 + 3),c (k * 5 + 4),hA,World.block_lt_of_cell? w _ h0,?_,?_,?_,?_,?_,?_,?_,?_,?_⟩
 . rw [h0,e0,Q1h,Q0v _ hk]
 . rw [Nat.add_assoc,h1,e1,Q0i,Q0v _ hk]
 . rw [Nat.add_assoc,h3]
 . rw [Nat.add_assoc,h4]
 . rw [Nat.add_assoc,h5]
 . rw [Q0c,Q0v _ hk]; exact e2
 . rw [Q0t,Q0v _ hk]; exact e3
 . rw [Q0y,Q0v _ hk]; exact e4
 . rw [Q1h,Q0v _ hk]; exact e5
theorem Q3m.opened {w:World} {v:Value} {l:List Rul} (h:Q3m w v l) :
    ∃ A cap,v=.slice A l.length cap /\ l.length <= 17592186043904 /\ l.length <= cap /\ ∀ k,k < l.length -> ∃ b off x,A=some ⟨b,off,none⟩ /\ b < w.heap.size /\
     w.cell? ⟨b,off + k * 2,none⟩=some x /\ w.cell? ⟨b,off + k * 2 + 1,none⟩=some (.bool (Q3p l k)) /\ Q0d w x (Q0n l k):=by
 obtain ⟨c,⟨A,cap,hv,hn,hcap,hc⟩,h2⟩:=h;refine ⟨A,cap,hv,hn,hcap,fun k hk=>?_⟩;obtain ⟨b,off,hA,h0⟩:=hc (k * 2) (by omega)
 obtain ⟨b',off',hA',h1⟩:=hc (k * 2 + 1) (by omega)
 rw [hA] at hA'; cases hA';obtain ⟨e0,e1⟩:=h2 k hk;simp only [Nat.add_zero] at e0 e1;refine ⟨b,off,c (k * 2),hA,World.block_lt_of_cell? w _ h0,?_,?_,?_⟩
 . rw [h0]
 . rw [Nat.add_assoc,h1,e1,Q3p,Q0v _ hk]
 . rw [Q0n,Q0v _ hk]; exact e0
theorem Q4j.opened {w:World} {v:Value} {l:List Grp} (h:Q4j w v l) :
    ∃ A cap,v=.slice A l.length cap /\ l.length <= 17592186043904 /\ l.length <= cap /\ ∀ k,k < l.length -> ∃ b off x,A=some ⟨b,off,none⟩ /\ b < w.heap.size /\
     w.cell? ⟨b,off + k * 2,none⟩=some x /\ w.cell? ⟨b,off + k * 2 + 1,none⟩=some (.int .i64 (Q8d l k)) /\ Q0d w x (Q5i l k):=by
 obtain ⟨c,⟨A,cap,hv,hn,hcap,hc⟩,h2⟩:=h;refine ⟨A,cap,hv,hn,hcap,fun k hk=>?_⟩;obtain ⟨b,off,hA,h0⟩:=hc (k * 2) (by omega)
 obtain ⟨b',off',hA',h1⟩:=hc (k * 2 + 1) (by omega)
 rw [hA] at hA'; cases hA';obtain ⟨e0,e1⟩:=h2 k hk;simp only [Nat.add_zero] at e0 e1;refine ⟨b,off,c (k * 2),hA,World.block_lt_of_cell? w _ h0,?_,?_,?_⟩
 . rw [h0]
 . rw [Nat.add_assoc,h1,e1,Q8d,Q0v _ hk]
 . rw [Q5i,Q0v _ hk]; exact e0
end Go.Tw
namespace Go.Tw
def Q0o (l:List Int) (most:Int):Int:=Q0g (l.map fun x=>Q0f x 0 most)
def Q2y (l:List Mem) (i:Nat):Bool:=(List.range i).any fun k=>Q1h l k == Q1h l i
namespace Q0b
def Q2o (s:Q0b) (i:Nat):Int :=
 if nameB (Q1h s.members i)=false then 8 else if Q2y s.members i=true then 9 else if Q0f (Q0i s.members i) 1 1000 ≠ 0 then 3 else
 if ¬ ((Q0c s.members i).length=s.ships.length /\ (Q0t s.members i).length=s.ships.length /\ (Q0y s.members i).length=s.ships.length) then 2 else
 Q0g [Q0o (Q0c s.members i) 9,Q0o (Q0t s.members i) 1024,Q0o (Q0y s.members i) 1024]
def err (s:Q0b):Int :=
 if Q0f s.limit 0 1024 ≠ 0 then 3 else if s.ships.length=0 then 12 else if 6 < s.ships.length then 5 else if Q0o s.ships 1000 ≠ 0 then 3 else
 if s.members.length=0 then 12 else if 8 < s.members.length then 5 else Q0g ((List.range s.members.length).map s.Q2o)
end Q0b
def Q9j (h:List Int) (row:List (List Int)):List (List Int) :=
 let k:=Q2x h row row.length
 if 0 < k /\ row.getD (k - 1) []=h then row else row.take k ++ [h] ++ row.drop k
namespace Q0b
def X0s (s:Q0b) (t:Nat):Nat -> List (List Int)
 | 0=>[]
 | i + 1=>Q9j ((Q0c s.members i).take (t + 1)) (s.X0s t i)
def Q7i (s:Q0b):Nat -> List (List Int)
 | 0=>[]
 | t + 1=>s.Q7i t ++ s.X0s t s.members.length
def hist (s:Q0b):List (List Int):=s.Q7i s.ships.length
def X5p (s:Q0b):List (List Int):=s.members.flatMap fun m=>(List.range m.classes.length).map fun t=>m.classes.take (t + 1)
end Q0b
def Q2d (h:List (List Int)) (p:List Rul):Int:=if p.length ≠ h.length then 2 else if (p.map Rul.classes) ≠ h then 11 else 0
def Q1g (s:Q0b) (p:List Rul):Int:=if s.err ≠ 0 then s.err else Q2d s.hist p
def look (p:List Rul) (h:List Int):Bool:=match p.find? (fun r=>r.classes == h) with | some r=>r.close | none=>false
def Q0m (p:List Rul) (l:List Int):List Bool:=(List.range l.length).map fun t=>look p (l.take (t + 1))
namespace Mem
def stepT (m:Mem) (t:Nat) (level:Int) (c:Bool):Int × Int:=if c then (level + ix m.inflow t,level + ix m.inflow t) else (ix m.outside t,0)
def Q3e (m:Mem):Nat -> Int -> List Bool -> List Int
 | _,_,[]=>[]
 | t,level,c :: r=>(m.stepT t level c).1 :: m.Q3e (t + 1) (m.stepT t level c).2 r
def X3n (m:Mem) (l:List Bool):List Int:=m.Q3e 0 0 l
def keeps (m:Mem) (limit:Int) (l:List Bool):Bool:=!((m.X3n l).any fun x=>decide (limit < x))
end Mem
def Q2e (s:Q0b) (i:Nat):Mem:=s.members.getD i default
def Q3r (s:Q0b) (p:List Rul):List Int :=
 ((List.range s.members.length).filter fun i=>(Q2e s i).keeps s.limit (Q0m p (Q2e s i).classes)).map Int.ofNat
def Q2c (s:Q0b) (l:List Int):Int:=(l.map fun i=>Q0i s.members i.toNat).sum
def allL (s:Q0b):List Int:=(List.range s.members.length).map Int.ofNat
def Y6q (s:Q0b) (p:List Rul):Ratio:=lowest (Q2c s (Q3r s p)) (Q2c s (allL s))
def countB (l:List Bool):Int:=(l.countP id:Nat)
def Q6e (s:Q0b) (l:List Bool):Int:=((List.range l.length).map fun t=>if l.getD t false then ix s.ships t else 0).sum
def Q4z (s:Q0b) (p:List Rul):Int:=(s.members.map fun m=>m.weight * countB (Q0m p m.classes)).sum
def X2t (s:Q0b) (p:List Rul):Int:=(s.members.map fun m=>m.weight * Q6e s (Q0m p m.classes)).sum
def Q5u (n t:Nat):List Bool:=(List.range t).map fun i=>n.testBit (t - 1 - i)
namespace Mem
def Q3n (m:Mem) (limit:Int) (t:Nat):Nat -> Option (List Bool)
 | 0=>none
 | n + 1=>if m.keeps limit (Q5u n t)=true /\ (∀ b,m.Q3n limit t n=some b -> countB (Q5u n t) < countB b) then some (Q5u n t) else m.Q3n limit t n
def X2v (m:Mem) (limit:Int) (t:Nat):Bool:=(List.range (2 ^ t)).any fun n=>m.keeps limit (Q5u n t)
end Mem
def alone (s:Q0b) (i:Nat):Option (List Bool):=(Q2e s i).Q3n s.limit s.ships.length (2 ^ s.ships.length)
def Q9n (s:Q0b) (i:Nat):Int:=match alone s i with | some b=>countB b | none=>0
def Q7o (s:Q0b) (i:Nat):Option Nat:=(List.range s.ships.length).find? fun t=>!(Q2e s i).X2v s.limit (t + 1)
def Y4l (s:Q0b) (p:List Rul):Int :=
 ((Q3r s p).map fun i=>Q0i s.members i.toNat * (countB (Q0m p (Q0c s.members i.toNat)) - Q9n s i.toNat)).sum
def Q9e (s:Q0b) (i:Nat):List Nat:=(List.range s.members.length).filter fun k=>Q0c s.members k == Q0c s.members i
def X7s (s:Q0b) (l:List Nat) (n:Nat):Int:=(l.map fun k=>if (Q2e s k).keeps s.limit (Q5u n s.ships.length) then Q0i s.members k else 0).sum
def Y0x (s:Q0b) (l:List Nat):Int:=(List.range (2 ^ s.ships.length)).foldl (fun m n=>max m (X7s s l n)) 0
def Q5b (s:Q0b):List Grp :=
 ((List.range s.members.length).filter fun i=>(Q9e s i).head? == some i).map fun i=>⟨(Q9e s i).map Int.ofNat,Y0x s (Q9e s i)⟩
def Y7i (s:Q0b):Int:=((Q5b s).map Grp.weight).sum
structure Plan where
 weight:Int
 closings:Int
 delay:Int
 closed:List ByteArray
structure Runner where
 member:Nat
 level:Int
 dry:Bool
def Plan.Q3w (x o:Plan):Bool:=decide (o.weight <= x.weight) && decide (x.closings <= o.closings) && decide (x.delay <= o.delay)
def Q1p (out:List Plan) (x:Plan):List Plan:=if out.any (fun o=>o.Q3w x) then out else (out.filter fun o=>!x.Q3w o) ++ [x]
def X5y (l:List Plan):List Plan:=l.foldl Q1p []
def both (x y:Plan):Plan:=⟨x.weight + y.weight,x.closings + y.closings,x.delay + y.delay,x.closed ++ y.closed⟩
def together (a b:List Plan):List Plan:=X5y (a.flatMap fun x=>b.map (both x))
def Q5x (l:List Int):ByteArray:=⟨(l.map fun n=>UInt8.ofNat n.toNat).toArray⟩
def moved (s:Q0b) (t:Nat) (c:Bool) (l:List Runner):List Runner :=
 l.map fun x=>⟨x.member,((Q2e s x.member).stepT t x.level c).2,x.dry && decide (((Q2e s x.member).stepT t x.level c).1 <= s.limit)⟩
def Q4v (s:Q0b) (l:List Runner):Int:=(l.map fun x=>Q0i s.members x.member).sum
def X9u (s:Q0b) (l:List Runner):Int:=(l.map fun x=>if x.dry then Q0i s.members x.member else 0).sum
def Q6k (s:Q0b) (t c:Nat) (l:List Runner):List Runner:=l.filter fun x=>ix (Q0c s.members x.member) t == (c:Int)
def Y1m (s:Q0b) (t:Nat):List Runner -> ByteArray
 | []=>⟨#[]⟩
 | x :: _=>Q5x ((Q0c s.members x.member).take (t + 1))
def X8e (s:Q0b) (t:Nat) (l:List Runner) (x:Plan):Plan:=⟨x.weight,x.closings + Q4v s l,x.delay + Q4v s l * ix s.ships t,x.closed ++ [Y1m s t l]⟩
def Q3l (s:Q0b) (t:Nat) (sub:List Runner -> List Plan) (l:List Runner):List Plan :=
 X5y (sub (moved s t false l) ++ (sub (moved s t true l)).map (X8e s t l))
def Q1x (s:Q0b) (t:Nat) (sub:List Runner -> List Plan) (l:List Runner):Nat -> List Plan
 | 0=>[⟨0,0,0,[]⟩]
 | c + 1=>if Q6k s t c l=[] then Q1x s t sub l c else together (Q1x s t sub l c) (Q3l s t sub (Q6k s t c l))
def Q1w (s:Q0b):Nat -> List Runner -> List Plan
 | 0,l=>[⟨X9u s l,0,0,[]⟩]
 | k + 1,l=>Q1x s (s.ships.length - (k + 1)) (Q1w s k) l 10
def Q2j (s:Q0b):List Plan:=Q1w s s.ships.length ((List.range s.members.length).map fun i=>⟨i,0,true⟩)
def Z5c (s:Q0b):Int:=(Q2j s).foldl (fun m x=>max m x.weight) 0
def Q1n (need:Int) (b:Option Plan) (x:Plan):Option Plan :=
 if x.weight < need then b else match b with
 | none=>some x
 | some o=>if x.closings < o.closings ∨ x.closings=o.closings /\ x.delay < o.delay then some x else b
def Y2s (s:Q0b) (need:Int):Option Plan:=(Q2j s).foldl (Q1n need) none
def X7b (s:Q0b) (x:Plan):List Rul:=s.hist.map fun h=>⟨h,x.closed.contains (Q5x h)⟩
def Q0k:Q0b:=⟨30,[5,7],[⟨⟨#[97]⟩,2,[0,0],[20,40],[10,10]⟩,⟨⟨#[98]⟩,1,[0,1],[40,20],[10,25]⟩,⟨⟨#[99]⟩,1,[0,1],[20,20],[10,10]⟩]⟩
def X0i (a b c:Bool):List Rul:=[⟨[0],a⟩,⟨[0,0],b⟩,⟨[0,1],c⟩]
def Q6d:Q0b:=⟨30,[0,0],[⟨⟨#[122]⟩,1,[0,0],[40,40],[20,20]⟩]⟩
end Go.Tw
namespace Go.Tw
theorem Y1r {α:Type} {R:α -> α -> Prop} (irr:∀ a,¬ R a a) (asym:∀ a b,R a b -> ¬ R b a) :
    ∀ {l m:List α},l.Pairwise R -> m.Pairwise R -> (∀ x,x ∈ l ↔ x ∈ m) -> l=m
 | [],[],_,_,_=>rfl
 | [],b :: m,_,_,h=>absurd ((h b).2 List.mem_cons_self) (by simp)
 | a :: l,[],_,_,h=>absurd ((h a).1 List.mem_cons_self) (by simp)
 | a :: l,b :: m,hl,hm,h=>by
   obtain ⟨hl1,hl2⟩:=List.pairwise_cons.1 hl;obtain ⟨hm1,hm2⟩:=List.pairwise_cons.1 hm;have hab:a=b:=by
    rcases List.mem_cons.1 ((h a).1 List.mem_cons_self) with e | e
    . exact e
    . rcases List.mem_cons.1 ((h b).2 List.mem_cons_self) with e' | e'
      . exact e'.symm
      . exact absurd (hm1 a e) (asym _ _ (hl1 b e'))
   subst hab;rw [Y1r irr asym hl2 hm2 fun x=>?_]
   constructor
   . intro hx
     rcases List.mem_cons.1 ((h x).1 (List.mem_cons_of_mem _ hx)) with e | e
     . subst e; exact absurd (hl1 _ hx) (irr _)
     . exact e
   . intro hx
     rcases List.mem_cons.1 ((h x).2 (List.mem_cons_of_mem _ hx)) with e | e
     . subst e; exact absurd (hm1 _ hx) (irr _)
     . exact e
theorem X2j:∀ a:List Int,Q5y a a=false
 | []=>rfl
 | x :: l=>by simp [Q5y,X2j l]
theorem X8l:∀ {a b:List Int},Q5y a b=true -> Q5y b a=false
 | [],_,h=>by simp [Q5y] at h
 | _ :: _,[],h=>by simp [Q5y] at h
 | x :: l,y :: m,h=>by
   unfold Q5y at h ⊢
   by_cases e:x=y
   . subst e; simp only [if_true] at h ⊢; exact X8l h
   . rw [if_neg e] at h; rw [if_neg (Ne.symm e)]; simp only [decide_eq_true_eq,decide_eq_false_iff_not] at h ⊢; omega
theorem X6j:∀ {a b c:List Int},Q5y a b=true -> Q5y b c=true -> Q5y a c=true
 | [],_,_,h,_=>by simp [Q5y] at h
 | _ :: _,[],_,h,_=>by simp [Q5y] at h
 | _ :: _,_ :: _,[],_,h=>by simp [Q5y] at h
 | x :: l,y :: m,z :: n,h,k=>by
   unfold Q5y at h k ⊢
   by_cases e:x=y
   . subst e; simp only [if_true] at h
     by_cases e':x=z
     . subst e'; simp only [if_true] at k ⊢; exact X6j h k
     . rw [if_neg e'] at k ⊢; exact k
   . rw [if_neg e] at h
     by_cases e':y=z
     . subst e'; rw [if_neg e]; exact h
     . rw [if_neg e'] at k; simp only [decide_eq_true_eq] at h k
       rw [if_neg (by omega)]; simp only [decide_eq_true_eq]; omega
theorem Y3o:∀ {a b:List Int},a.length=b.length -> Q5y a b=false -> a=b ∨ Q5y b a=true
 | [],[],_,_=>.inl rfl
 | [],_ :: _,h,_=>by simp at h
 | _ :: _,[],h,_=>by simp at h
 | x :: l,y :: m,h,k=>by
   unfold Q5y at k ⊢
   by_cases e:x=y
   . subst e; simp only [if_true] at k ⊢
     rcases Y3o (Nat.succ.inj h) k with r | r
     . exact .inl (by rw [r])
     . exact .inr r
   . rw [if_neg e] at k; rw [if_neg (Ne.symm e)]
     simp only [decide_eq_true_eq,decide_eq_false_iff_not] at k ⊢; exact .inr (by omega)
theorem Q6j (a:List Int):¬ Q1s a a=true:=by simp [Q1s,X2j]
theorem Y2p (a b:List Int) (h:Q1s a b=true):¬ Q1s b a=true:=by
 unfold Q1s at h ⊢
 by_cases e:a.length=b.length
 . rw [if_pos e] at h; rw [if_pos e.symm,X8l h]; simp
 . rw [if_neg e] at h; rw [if_neg (Ne.symm e)]; simp only [decide_eq_true_eq] at h ⊢; omega
theorem Q5f {a b c:List Int} (h:Q1s a b=true) (k:Q1s b c=true):Q1s a c=true:=by
 unfold Q1s at h k ⊢
 by_cases e:a.length=b.length
 . rw [if_pos e] at h
   by_cases e':b.length=c.length
   . rw [if_pos e'] at k; rw [if_pos (e.trans e')]; exact X6j h k
   . rw [if_neg e'] at k; rw [if_neg (by omega)]; rw [e]; exact k
 . rw [if_neg e] at h
   by_cases e':b.length=c.length
   . rw [if_neg (by omega),<- e']; exact h
   . rw [if_neg e'] at k; simp only [decide_eq_true_eq] at h k; rw [if_neg (by omega)]; simp only [decide_eq_true_eq]; omega
theorem X6d {a b:List Int} (h:Q1s a b=false):a=b ∨ Q1s b a=true:=by
 unfold Q1s at h ⊢
 by_cases e:a.length=b.length
 . rw [if_pos e] at h; rw [if_pos e.symm]; exact Y3o e h
 . rw [if_neg e] at h; rw [if_neg (Ne.symm e)]; simp only [decide_eq_true_eq,decide_eq_false_iff_not] at h ⊢; exact .inr (by omega)
def Asc (l:List (List Int)):Prop:=l.Pairwise fun a b=>Q1s a b=true
theorem Z9w {l m:List (List Int)} (hl:Asc l) (hm:Asc m) (h:∀ x,x ∈ l ↔ x ∈ m):l=m :=
 Y1r Q6j Y2p hl hm h
theorem posB (h:List Int) (out:List (List Int)):∀ n,Q2x h out n <= n /\ (∀ i,Q2x h out n <= i -> i < n -> Q1s h (out.getD i [])=true) /\
    (0 < Q2x h out n -> Q1s h (out.getD (Q2x h out n - 1) [])=false)
 | 0=>⟨Nat.le_refl _,fun i _ h=>absurd h (Nat.not_lt_zero _),fun h=>absurd h (Nat.lt_irrefl _)⟩
 | n + 1=>by
   obtain ⟨h1,h2,h3⟩:=posB h out n;unfold Q2x
   by_cases e:Q1s h (out.getD n [])=true
   . rw [if_pos e]
     refine ⟨by omega,fun i hi hn=>?_,h3⟩
     by_cases hin:i=n
     . subst hin; exact e
     . exact h2 i hi (by omega)
   . rw [if_neg e]
     exact ⟨Nat.le_refl _,fun i hi hn=>by omega,fun _=>by simpa using e⟩
theorem row_mem (h:List Int) (row:List (List Int)) (x:List Int):x ∈ Q9j h row ↔ x=h ∨ x ∈ row:=by
 unfold Q9j;obtain ⟨h1,-,-⟩:=posB h row row.length
 by_cases e:0 < Q2x h row row.length /\ row.getD (Q2x h row row.length - 1) []=h
 . dsimp only; rw [if_pos e]
   refine ⟨.inr,fun k=>k.elim (fun k=>?_) id⟩;subst k;have hlt:Q2x x row row.length - 1 < row.length:=by omega
   rw [List.getD_eq_getElem?_getD,List.getElem?_eq_getElem hlt,Option.getD_some] at e;exact e.2 ▸ List.getElem_mem hlt
 . dsimp only; rw [if_neg e]
   have hx:x ∈ row ↔ x ∈ row.take (Q2x h row row.length) ∨ x ∈ row.drop (Q2x h row row.length):=by
    rw [<- List.mem_append,List.take_append_drop]
   simp only [List.mem_append,List.mem_singleton,hx]
   constructor
   . rintro ((k | k) | k)
     . exact .inr (.inl k)
     . exact .inl k
     . exact .inr (.inr k)
   . rintro (k | k | k)
     . exact .inl (.inr k)
     . exact .inl (.inl k)
     . exact .inr k
theorem Z8b (h:List Int) {row:List (List Int)} (ha:Asc row):Asc (Q9j h row):=by
 unfold Q9j;obtain ⟨h1,h2,h3⟩:=posB h row row.length
 by_cases e:0 < Q2x h row row.length /\ row.getD (Q2x h row row.length - 1) []=h
 . dsimp only; rw [if_pos e]; exact ha
 . dsimp only; rw [if_neg e]
   generalize Q2x h row row.length=k at *;have hi:∀ i j (hi:i < row.length) (hj:j < row.length),i < j -> Q1s row[i] row[j]=true:=fun i j hi hj hij=>List.pairwise_iff_getElem.1 ha i j hi hj hij;have hd:∀ x ∈ row.drop k,Q1s h x=true:=by
    intro x hx;obtain ⟨i,hi,rfl⟩:=List.mem_iff_getElem.1 hx;rw [List.length_drop] at hi;rw [List.getElem_drop];have:=h2 (k + i) (by omega) (by omega)
    rwa [List.getD_eq_getElem?_getD,List.getElem?_eq_getElem (by omega),Option.getD_some] at this
   have ht:∀ x ∈ row.take k,Q1s x h=true:=by
    intro x hx;obtain ⟨i,hi',rfl⟩:=List.mem_iff_getElem.1 hx;rw [List.length_take] at hi';rw [List.getElem_take];have hk:0 < k:=by omega
    have h4:=h3 hk;have hlt:k - 1 < row.length:=by omega
    rw [List.getD_eq_getElem?_getD,List.getElem?_eq_getElem hlt,Option.getD_some] at h4 e;have h5:Q1s row[k - 1] h=true:=by
     rcases X6d h4 with r | r
     . exact absurd ⟨hk,r.symm⟩ e
     . exact r
    by_cases hik:i=k - 1
    . subst hik; exact h5
    . exact Q5f (hi i (k - 1) (by omega) hlt (by omega)) h5
   refine List.pairwise_append.2 ⟨List.pairwise_append.2 ⟨List.Pairwise.sublist (List.take_sublist _ _) ha,List.pairwise_singleton _ _,fun a ha' b hb=>?_⟩,List.Pairwise.sublist (List.drop_sublist _ _) ha,fun a ha' b hb=>?_⟩
   . rw [List.mem_singleton] at hb; subst hb; exact ht a ha'
   . rcases List.mem_append.1 ha' with r | r
     . exact Q5f (ht a r) (hd b hb)
     . rw [List.mem_singleton] at r; subst r; exact hd b hb
namespace Q0b
variable {s:Q0b}
theorem Y1n (t:Nat):∀ i,Asc (s.X0s t i)
 | 0=>List.Pairwise.nil
 | i + 1=>Z8b _ (Y1n t i)
theorem X4u (t:Nat) (x:List Int):∀ i,x ∈ s.X0s t i ↔ ∃ k,k < i /\ x=(Q0c s.members k).take (t + 1)
 | 0=>by simp [X0s]
 | i + 1=>by
   rw [X0s,row_mem,X4u t x i]
   constructor
   . rintro (h | ⟨k,hk,h⟩)
     . exact ⟨i,Nat.lt_succ_self _,h⟩
     . exact ⟨k,by omega,h⟩
   . rintro ⟨k,hk,h⟩
     by_cases e:k=i
     . subst e; exact .inl h
     . exact .inr ⟨k,by omega,h⟩
theorem Q4n (x:List Int):∀ n,x ∈ s.Q7i n ↔ ∃ t,t < n /\ ∃ k,k < s.members.length /\ x=(Q0c s.members k).take (t + 1)
 | 0=>by simp [Q7i]
 | n + 1=>by
   rw [Q7i,List.mem_append,Q4n x n,X4u]
   constructor
   . rintro (⟨t,ht,h⟩ | h)
     . exact ⟨t,by omega,h⟩
     . exact ⟨n,Nat.lt_succ_self _,h⟩
   . rintro ⟨t,ht,h⟩
     by_cases e:t=n
     . subst e; exact .inr h
     . exact .inl ⟨t,by omega,h⟩
def Shaped (s:Q0b):Prop:=∀ k,k < s.members.length -> (Q0c s.members k).length=s.ships.length /\ (Q0t s.members k).length=s.ships.length /\ (Q0y s.members k).length=s.ships.length
theorem X8j (hs:s.Shaped):∀ n,n <= s.ships.length -> Asc (s.Q7i n)
 | 0,_=>List.Pairwise.nil
 | n + 1,hn=>by
   refine List.pairwise_append.2 ⟨X8j hs n (by omega),Y1n n _,fun a ha b hb=>?_⟩
   obtain ⟨t,ht,k,hk,rfl⟩:=(Q4n a n).1 ha;obtain ⟨j,hj,rfl⟩:=(X4u n b _).1 hb;have h1:=(hs k hk).1;have h2:=(hs j hj).1;unfold Q1s;rw [if_neg (by simp only [List.length_take]; omega)]
   simp only [List.length_take,decide_eq_true_eq]; omega
theorem Y7u (hs:s.Shaped):Asc s.hist:=X8j hs _ (Nat.le_refl _)
theorem Z8o (hs:s.Shaped) (x:List Int):x ∈ s.X5p ↔ x ∈ s.hist:=by
 rw [hist,Q4n,X5p,List.mem_flatMap]
 constructor
 . rintro ⟨m,hm,h⟩
   obtain ⟨t,ht,rfl⟩:=List.mem_map.1 h;rw [List.mem_range] at ht;obtain ⟨k,hk,rfl⟩:=List.mem_iff_getElem.1 hm;have e:Q0c s.members k=s.members[k].classes:=by rw [Q0c,Q0v _ hk]
   exact ⟨t,by rw [<- (hs k hk).1,e]; exact ht,k,hk,by rw [e]⟩
 . rintro ⟨t,ht,k,hk,rfl⟩
   have e:Q0c s.members k=s.members[k].classes:=by rw [Q0c,Q0v _ hk]
   refine ⟨s.members[k],List.getElem_mem hk,List.mem_map.2 ⟨t,?_,by rw [e]⟩⟩
   rw [List.mem_range,<- e,(hs k hk).1]; exact ht
theorem Z8i (hs:s.Shaped) {l:List (List Int)} (hl:Asc l) (h:∀ x,x ∈ l ↔ x ∈ s.X5p):l=s.hist :=
 Z9w hl (Y7u hs) fun x=>(h x).trans (Z8o hs x)
end Q0b
end Go.Tw
namespace Go.Tw
theorem Q7w {x o:Plan}:x.Q3w o=true ↔ o.weight <= x.weight /\ x.closings <= o.closings /\ x.delay <= o.delay:=by
 unfold Plan.Q3w; simp only [Bool.and_eq_true,decide_eq_true_eq,and_assoc]
theorem Q8z (x:Plan):x.Q3w x=true:=Q7w.2 ⟨Int.le_refl _,Int.le_refl _,Int.le_refl _⟩
theorem Y4n {x y z:Plan} (h:x.Q3w y=true) (k:y.Q3w z=true):x.Q3w z=true:=by
 rw [Q7w] at *; omega
theorem X9a {out:List Plan} {x y:Plan} (h:y ∈ Q1p out x):y ∈ out ∨ y=x:=by
 unfold Q1p at h
 split at h
 . exact .inl h
 . rcases List.mem_append.1 h with r | r
   . exact .inl (List.mem_filter.1 r).1
   . exact .inr (List.mem_singleton.1 r)
theorem X3y {out:List Plan} {x y:Plan} (h:y ∈ out ∨ y=x):∃ o ∈ Q1p out x,o.Q3w y=true:=by
 unfold Q1p
 split
 . rename_i he
   rcases h with h | h
   . exact ⟨y,h,Q8z y⟩
   . subst h
     obtain ⟨o,ho,hb⟩:=List.any_eq_true.1 he;exact ⟨o,ho,hb⟩
 . rcases h with h | h
   . by_cases hb:x.Q3w y=true
     . exact ⟨x,List.mem_append.2 (.inr (List.mem_singleton.2 rfl)),hb⟩
     . exact ⟨y,List.mem_append.2 (.inl (List.mem_filter.2 ⟨h,by simp [hb]⟩)),Q8z y⟩
   . subst h; exact ⟨y,List.mem_append.2 (.inr (List.mem_singleton.2 rfl)),Q8z y⟩
theorem X1i:∀ {l out:List Plan} {y:Plan},y ∈ l.foldl Q1p out -> y ∈ out ∨ y ∈ l
 | [],_,_,h=>.inl h
 | x :: l,out,y,h=>by
   rcases X1i (l:=l) h with r | r
   . rcases X9a r with r | r
     . exact .inl r
     . exact .inr (r ▸ List.mem_cons_self)
   . exact .inr (List.mem_cons_of_mem _ r)
theorem Q5s:∀ {l out:List Plan} {y:Plan},y ∈ out ∨ y ∈ l -> ∃ o ∈ l.foldl Q1p out,o.Q3w y=true
 | [],_,y,h=>⟨y,h.elim id (fun h=>absurd h (by simp)),Q8z y⟩
 | x :: l,out,y,h=>by
   have h':(y ∈ out ∨ y=x) ∨ y ∈ l:=by
    rcases h with h | h
    . exact .inl (.inl h)
    . rcases List.mem_cons.1 h with h | h
      . exact .inl (.inr h)
      . exact .inr h
   rcases h' with h' | h'
   . obtain ⟨o,ho,hb⟩:=X3y h'
     obtain ⟨o',ho',hb'⟩:=Q5s (l:=l) (out:=Q1p out x) (.inl ho);exact ⟨o',ho',Y4n hb' hb⟩
   . exact Q5s (l:=l) (out:=Q1p out x) (.inr h')
theorem X4n {l:List Plan} {y:Plan} (h:y ∈ X5y l):y ∈ l:=(X1i h).elim (fun h=>absurd h (by simp)) id
theorem Q9z {l:List Plan} {y:Plan} (h:y ∈ l):∃ o ∈ X5y l,o.Q3w y=true:=Q5s (.inr h)
theorem X2s {a b:List Plan} {y:Plan} (h:y ∈ together a b):∃ x ∈ a,∃ z ∈ b,y=both x z:=by
 obtain ⟨x,hx,hy⟩:=List.mem_flatMap.1 (X4n h);obtain ⟨z,hz,e⟩:=List.mem_map.1 hy;exact ⟨x,hx,z,hz,e.symm⟩
theorem X7j {a b:List Plan} {x z:Plan} (hx:x ∈ a) (hz:z ∈ b):∃ o ∈ together a b,o.Q3w (both x z)=true :=
 Q9z (List.mem_flatMap.2 ⟨x,hx,List.mem_map.2 ⟨z,hz,rfl⟩⟩)
def Digits (l:List Int):Prop:=∀ x ∈ l,0 <= x /\ x <= 9
theorem Y8h:∀ {a b:List Int},Digits a -> Digits b -> Q5x a=Q5x b -> a=b:=by
 have go:∀ {a b:List Int},Digits a -> Digits b -> (a.map fun n=>UInt8.ofNat n.toNat)=(b.map fun n=>UInt8.ofNat n.toNat) -> a=b:=by
  intro a
  induction a with
  | nil=>intro b _ _ h; cases b with | nil=>rfl | cons y b=>simp at h
  | cons x a ih =>
    intro b ha hb h;cases b with
    | nil=>simp at h
    | cons y b =>
      simp only [List.map_cons,List.cons.injEq] at h;have h1:=congrArg UInt8.toNat h.1;simp only [UInt8.toNat_ofNat'] at h1;obtain ⟨x0,x1⟩:=ha x List.mem_cons_self;obtain ⟨y0,y1⟩:=hb y List.mem_cons_self;rw [ih (fun z hz=>ha z (List.mem_cons_of_mem _ hz)) (fun z hz=>hb z (List.mem_cons_of_mem _ hz)) h.2]
      congr 1
      omega
 intro a b ha hb h;have:=congrArg (fun k:ByteArray=>k.data.toList) h;exact go ha hb (by simpa [Q5x] using this)
theorem Q4k {l:List Int} (h:Digits l) (n:Nat):Digits (l.take n):=fun x hx=>h x (List.mem_of_mem_take hx)
structure Fine (s:Q0b):Prop where
 shaped:s.Shaped
 digits:∀ k,k < s.members.length -> Digits (Q0c s.members k)
def mv1 (s:Q0b) (t:Nat) (c:Bool) (x:Runner):Runner:=⟨x.member,((Q2e s x.member).stepT t x.level c).2,x.dry && decide (((Q2e s x.member).stepT t x.level c).1 <= s.limit)⟩
theorem Y0e (s:Q0b) (t:Nat) (c:Bool) (l:List Runner):moved s t c l=l.map (mv1 s t c):=rfl
def hs (s:Q0b) (i u:Nat):List Int:=(Q0c s.members i).take u
def Z8w (s:Q0b) (f:List Int -> Bool):Nat -> Runner -> Bool
 | 0,x=>x.dry
 | k + 1,x=>Z8w s f k (mv1 s (s.ships.length - (k + 1)) (f (hs s x.member (s.ships.length - k))) x)
def Z7j (s:Q0b) (f:List Int -> Bool):Nat -> Nat -> Int
 | 0,_=>0
 | k + 1,i=>(if f (hs s i (s.ships.length - k)) then 1 else 0) + Z7j s f k i
def Z8j (s:Q0b) (f:List Int -> Bool):Nat -> Nat -> Int
 | 0,_=>0
 | k + 1,i=>(if f (hs s i (s.ships.length - k)) then ix s.ships (s.ships.length - (k + 1)) else 0) + Z8j s f k i
def Z0n (s:Q0b) (f:List Int -> Bool) (k:Nat) (l:List Runner):Int:=(l.map fun x=>if Z8w s f k x then Q0i s.members x.member else 0).sum
def Y5k (s:Q0b) (f:List Int -> Bool) (k:Nat) (l:List Runner):Int:=(l.map fun x=>Q0i s.members x.member * Z7j s f k x.member).sum
def Y6n (s:Q0b) (f:List Int -> Bool) (k:Nat) (l:List Runner):Int:=(l.map fun x=>Q0i s.members x.member * Z8j s f k x.member).sum
def Agr (s:Q0b) (f:List Int -> Bool) (cl:List ByteArray) (t:Nat) (l:List Runner):Prop:=∀ r ∈ l,∀ u,t < u -> u <= s.ships.length -> f (hs s r.member u)=cl.contains (Q5x (hs s r.member u))
def Keys (s:Q0b) (cl:List ByteArray) (t:Nat) (l:List Runner):Prop:=∀ b ∈ cl,∃ r ∈ l,∃ u,t < u /\ u <= s.ships.length /\ b=Q5x (hs s r.member u)
def Known (s:Q0b) (l:List Runner):Prop:=∀ r ∈ l,r.member < s.members.length
end Go.Tw
namespace Go.Tw
theorem Q1r {l:List Int}:Q0g l=0 ↔ ∀ x ∈ l,x=0:=by
 induction l with
 | nil=>simp [Q0g]
 | cons y l ih =>
   unfold Q0g
   by_cases h:y=0
   . simp [h,ih]
   . simp [h]
structure Fit (t:Tree):Prop where
 nb:t.basics.length <= 1000
 nc:t.causes.length <= 1000
 ng:t.gates.length <= 1000
 inp:∀ k,k < t.gates.length -> ∀ x ∈ Q6i t.gates k,0 <= x /\ x < (t.basics.length:Int) + k
theorem X4e {l:List Int} {n:Int} (h:Y7o l n=0):(∀ x ∈ l,0 <= x /\ x < n) /\ Z3c l=true:=by
 unfold Y7o at h
 split at h
 . cases h
 . split at h
   . rename_i h1 h2
     refine ⟨fun x hx=>?_,h2⟩;unfold J2b at h1;rw [Bool.not_eq_true,List.any_eq_false] at h1;have:=h1 x hx;simp only [decide_eq_true_eq] at this;omega
   . cases h
structure Valid (t:Tree):Prop where
 nb:1 <= t.basics.length
 ng:1 <= t.gates.length
 size:t.size <= 12
 ng':t.gates.length <= 32
 event:∀ i,i < t.size -> t.X3s i=0
 gate:∀ i,i < t.gates.length -> t.X5f i=0
theorem Valid.of {t:Tree} (h:t.err=0):Valid t:=by
 unfold Tree.err at h
 split at h
 . cases h
 . split at h
   . cases h
   . rename_i h1 h2
     rw [Q1r] at h;refine ⟨by omega,by omega,by omega,by omega,fun i hi=>h _ ?_,fun i hi=>h _ ?_⟩
     . exact List.mem_append_left _ (List.mem_map.2 ⟨i,List.mem_range.2 hi,rfl⟩)
     . exact List.mem_append_right _ (List.mem_map.2 ⟨i,List.mem_range.2 hi,rfl⟩)
theorem Valid.inputs {t:Tree} (h:Valid t) {k:Nat} (hk:k < t.gates.length):X1q (Q6i t.gates k) ((t.basics.length:Int) + k)=0:=by
 have:=h.gate k hk;unfold Tree.X5f Z1j at this;rw [Q1r] at this;exact this _ (by simp)
theorem X2g {l:List Int} {n:Int} (h:X1q l n=0):l ≠ [] /\ Y7o l n=0:=by
 unfold X1q at h
 split at h
 . cases h
 . exact ⟨‹_›,h⟩
theorem Valid.chance {t:Tree} (h:Valid t) {i:Nat} (hi:i < t.size):0 <= t.X3x i /\ t.X3x i <= 16:=by
 have:=h.event i hi;unfold Tree.X3s at this;rw [Q1r] at this;have:=this (Q0f (t.X3x i) 0 16) (by simp)
 unfold Q0f at this
 split at this
 . cases this
 . omega
end Go.Tw
namespace Go.Tw
variable {s:Q0b}
theorem Q5h {x a b:Int}:Q0f x a b=0 ↔ a <= x /\ x <= b:=by unfold Q0f; split <;> simp <;> omega
theorem Q4l {l:List Int} {m:Int}:Q0o l m=0 ↔ ∀ x ∈ l,0 <= x /\ x <= m:=by
 unfold Q0o;rw [Q1r]
 constructor
 . intro h x hx; exact Q5h.1 (h _ (List.mem_map.2 ⟨x,hx,rfl⟩))
 . intro h y hy
   obtain ⟨x,hx,rfl⟩:=List.mem_map.1 hy;exact Q5h.2 (h x hx)
structure Q1b (s:Q0b):Prop extends Fine s where
 limit:0 <= s.limit /\ s.limit <= 1024
 tides:0 < s.ships.length /\ s.ships.length <= 6
 delays:∀ x ∈ s.ships,0 <= x /\ x <= 1000
 some:0 < s.members.length /\ s.members.length <= 8
 names:∀ k,k < s.members.length -> nameB (Q1h s.members k)=true
 twice:∀ k,k < s.members.length -> ∀ i,i < k -> Q1h s.members i ≠ Q1h s.members k
 weights:∀ k,k < s.members.length -> 1 <= Q0i s.members k /\ Q0i s.members k <= 1000
 outside:∀ k,k < s.members.length -> ∀ x ∈ Q0t s.members k,0 <= x /\ x <= 1024
 inflow:∀ k,k < s.members.length -> ∀ x ∈ Q0y s.members k,0 <= x /\ x <= 1024
theorem Q3v {k:Nat} (h:s.Q2o k=0):nameB (Q1h s.members k)=true /\ Q2y s.members k=false /\ (1 <= Q0i s.members k /\ Q0i s.members k <= 1000) /\
    ((Q0c s.members k).length=s.ships.length /\ (Q0t s.members k).length=s.ships.length /\ (Q0y s.members k).length=s.ships.length) /\
    Digits (Q0c s.members k) /\ (∀ x ∈ Q0t s.members k,0 <= x /\ x <= 1024) /\ (∀ x ∈ Q0y s.members k,0 <= x /\ x <= 1024):=by
 unfold Q0b.Q2o at h
 by_cases h1:nameB (Q1h s.members k)=false
 . rw [if_pos h1] at h; exact absurd h (by decide)
 . rw [if_neg h1] at h
   by_cases h2:Q2y s.members k=true
   . rw [if_pos h2] at h; exact absurd h (by decide)
   . rw [if_neg h2] at h
     by_cases h3:Q0f (Q0i s.members k) 1 1000 ≠ 0
     . rw [if_pos h3] at h; exact absurd h (by decide)
     . rw [if_neg h3] at h
       by_cases h4:(Q0c s.members k).length=s.ships.length /\ (Q0t s.members k).length=s.ships.length /\ (Q0y s.members k).length=s.ships.length
       . rw [if_neg (fun hn=>hn h4),Q1r] at h
         refine ⟨by simpa using h1,by simpa using h2,Q5h.1 (Decidable.not_not.1 h3),h4,Q4l.1 (h _ (by simp)),Q4l.1 (h _ (by simp)),Q4l.1 (h _ (by simp))⟩
       . rw [if_pos h4] at h; exact absurd h (by decide)
theorem Q1b.of (h:s.err=0):Q1b s:=by
 unfold Q0b.err at h
 by_cases h1:Q0f s.limit 0 1024 ≠ 0
 . rw [if_pos h1] at h; exact absurd h (by decide)
 rw [if_neg h1] at h
 by_cases h2:s.ships.length=0
 . rw [if_pos h2] at h; exact absurd h (by decide)
 rw [if_neg h2] at h
 by_cases h3:6 < s.ships.length
 . rw [if_pos h3] at h; exact absurd h (by decide)
 rw [if_neg h3] at h
 by_cases h4:Q0o s.ships 1000 ≠ 0
 . rw [if_pos h4] at h; exact absurd h (by decide)
 rw [if_neg h4] at h
 by_cases h5:s.members.length=0
 . rw [if_pos h5] at h; exact absurd h (by decide)
 rw [if_neg h5] at h
 by_cases h6:8 < s.members.length
 . rw [if_pos h6] at h; exact absurd h (by decide)
 rw [if_neg h6,Q1r] at h;have hm:∀ k,k < s.members.length -> s.Q2o k=0:=fun k hk=>h _ (List.mem_map.2 ⟨k,List.mem_range.2 hk,rfl⟩);have ht:∀ k,k < s.members.length -> ∀ i,i < k -> Q1h s.members i ≠ Q1h s.members k:=fun k hk i hi e=>by
  have:=(Q3v (hm k hk)).2.1;unfold Q2y at this;rw [List.any_eq_false] at this;exact this i (List.mem_range.2 hi) (str_eq e)
 exact ⟨⟨fun k hk=>(Q3v (hm k hk)).2.2.2.1,fun k hk=>(Q3v (hm k hk)).2.2.2.2.1⟩,Q5h.1 (Decidable.not_not.1 h1),⟨by omega,by omega⟩,Q4l.1 (Decidable.not_not.1 h4),⟨by omega,by omega⟩,fun k hk=>(Q3v (hm k hk)).1,ht,fun k hk=>(Q3v (hm k hk)).2.2.1,fun k hk=>(Q3v (hm k hk)).2.2.2.2.2.1,fun k hk=>(Q3v (hm k hk)).2.2.2.2.2.2⟩
end Go.Tw
