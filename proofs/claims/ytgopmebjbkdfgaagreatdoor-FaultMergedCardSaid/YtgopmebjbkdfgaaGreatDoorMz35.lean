/- Families of lists of the call's own: a store of one number turns one list and leaves the others alone. The walk through Merge from region 16 on: the gates of the first tree. -/
import Derived.Test.YtgopmebjbkdfgaaGreatDoorMz31
import Derived.Test.YtgopmebjbkdfgaaGreatDoorMz34
set_option maxRecDepth 1000000
set_option maxHeartbeats 64000000
set_option linter.unusedVariables false
set_option linter.unusedSimpArgs false
set_option linter.constructorNameAsVariable false
namespace Go.Proofs
open Go.RowKit Go.Tw Go.Flow
def Y4a (w:World) (B:Nat) (n:Nat -> Nat) (m:Nat -> Nat -> Value) (L:Nat -> Nat -> List Int):Prop :=
 (∀ q i,q < 4 -> i < n q -> Q0t w B 3 (.int .i64) (m q i) (L q i)) /\ ∀ q i p j,q < 4 -> p < 4 -> i < n q -> j < n p -> (q ≠ p ∨ i ≠ j) -> Apart (m q i) (m p j)
theorem Y4a.ext {w w':World} {B:Nat} {n:Nat -> Nat} {m:Nat -> Nat -> Value} {L:Nat -> Nat -> List Int} (h:Y4a w B n m L) (hx:Ext w w'):Y4a w' B n m L:=⟨fun q i hq hi=>(h.1 q i hq hi).below hx,h.2⟩
theorem Y4a.keep {T:TypeId} {w w':World} {B:Nat} {n:Nat -> Nat} {m:Nat -> Nat -> Value} {L:Nat -> Nat -> List Int} (h:Y4a w B n m L) (hT:3 ≠ T) (hk:Keep T w w'):Y4a w' B n m L :=
 ⟨fun q i hq hi=>by
  obtain ⟨h1,h2⟩:=h.1 q i hq hi;refine ⟨h1,?_⟩
  rcases h2 with h2 | ⟨g,cap,cur,hv,hb,hgl,r⟩
  . exact .inl h2
  . exact .inr ⟨g,cap,cur,hv,hb,hk _ _ _ hT hgl,r⟩,h.2⟩
theorem Y4a.congr {w:World} {B:Nat} {n:Nat -> Nat} {m:Nat -> Nat -> Value} {L L':Nat -> Nat -> List Int} (h:Y4a w B n m L) (he:∀ q i,q < 4 -> i < n q -> L' q i = L q i):Y4a w B n m L':=⟨fun q i hq hi=>by rw [he q i hq hi]; exact h.1 q i hq hi,h.2⟩
theorem Keep.refl (T:TypeId) (w:World):Keep T w w:=fun _ _ _ _ h=>h
theorem Y4a.spot {w:World} {B:Nat} {n:Nat -> Nat} {m:Nat -> Nat -> Value} {L:Nat -> Nat -> List Int} (h:Y4a w B n m L) {q i k:Nat} (hq:q < 4) (hi:i < n q) (hk:k < (L q i).length) :
    ∃ g cap,m q i = .slice (some ⟨g,0,none⟩) (L q i).length cap /\ (L q i).length <= cap /\ w.cell? ⟨g,k,none⟩ = some (.int .i64 (ix (L q i) k)) /\ w.frozen? ⟨g,k,none⟩ = false /\
     ∀ x,Y4a (w.setCell ⟨g,k,none⟩ (.int .i64 x)) B n m (fun p j=>if p = q /\ j = i then (L q i).set k x else L p j) /\ Keep 3 w (w.setCell ⟨g,k,none⟩ (.int .i64 x)) /\ Below B w (w.setCell ⟨g,k,none⟩ (.int .i64 x)):=by
 have ho:=h.1 q i hq hi;obtain ⟨g,cap,hv,hbg,hc⟩:=ho.spot (by omega)
 have ho2:=ho;rw [hv] at ho2;obtain ⟨c1,c2⟩:=ho2.at hk;have hob:(m q i).ownBlock = some g:=by rw [hv]; rfl
 have hgi:∃ cs,Blk w g 3 cs:=by
  obtain ⟨_,h2⟩:=ho2
  rcases h2 with ⟨h2,_⟩ | ⟨g',cap',cur,hv',_,hgl,_⟩
  . cases h2
  . cases hv'
    exact ⟨_,hgl⟩
 obtain ⟨cs,hgi⟩:=hgi;refine ⟨g,cap,hv,hc,c1,c2,fun x=>⟨⟨fun p j hp hj=>?_,h.2⟩,fun b S ds hS hb=>?_,(Below.refl B w).setCell (p:=⟨g,k,none⟩) hbg _⟩⟩
 . show Q0t _ B _ _ (m p j) (if p = q /\ j = i then (L q i).set k x else L p j)
   by_cases e:p = q /\ j = i
   . rw [if_pos e,e.1,e.2]
     have:=ho2.set (j:=k) x;rw [<- hv] at this;exact this
   . rw [if_neg e]
     refine ownsRow_setCell_other (h.1 p j hp hj) (a:=⟨g,k,none⟩) (fun e2=>?_) _;exact h.2 p j q i hp hq hj hi (by by_cases e3:p = q; exact .inr fun e4=>e ⟨e3,e4⟩; exact .inl e3) g e2 hob
 . have hne:b ≠ g:=Q2f hb hgi hS
   unfold Blk at hb ⊢;rw [Below.heap_setCell _ _ _ _ hne];exact hb
def up (f:Int -> Int) (l:Nat -> List Int) (i k:Nat):Nat -> List Int:=fun j=>if j < i then (l j).map f else if j = i then part f (l j) k else l j
theorem J2o (f:Int -> Int) (l:Nat -> List Int) (i k:Nat):up f l i k i = part f (l i) k:=by unfold up; rw [if_neg (Nat.lt_irrefl _),if_pos rfl]
theorem Y6k (f:Int -> Int) (l:Nat -> List Int) (i k j:Nat):(up f l i k j).length = (l j).length:=by
 unfold up
 split
 . rw [List.length_map]
 . split
   . rw [Z0q]
   . rfl
theorem J4q (f:Int -> Int) (l:Nat -> List Int) {i k:Nat} (h:k < (l i).length):ix (up f l i k i) k = ix (l i) k:=by
 have h2:k < (part f (l i) k).length:=by rw [Z0q]; exact h
 rw [J2o,Q6o h2,Q6o h,J3d _ _ _ h]
theorem J3b (f:Int -> Int) (l:Nat -> List Int) {i k:Nat} (h:k < (l i).length) (j:Nat):(if j = i then (up f l i k i).set k (f (ix (l i) k)) else up f l i k j) = up f l i (k + 1) j:=by
 by_cases e:j = i
 . subst e
   rw [if_pos rfl,J2o,J2o,Q6o h,Z5z _ _ _ h]
 . rw [if_neg e]
   unfold up
   split
   . rfl
   . rfl
def Z0c (L:Nat -> Nat -> List Int) (q:Nat) (x:Nat -> List Int):Nat -> Nat -> List Int:=fun p=>if p = q then x else L p
theorem J4d (L:Nat -> Nat -> List Int) (q:Nat) (x:Nat -> List Int):Z0c L q x q = x:=by unfold Z0c; rw [if_pos rfl]
theorem Y4a.turn {w:World} {B q k j:Nat} {n:Nat -> Nat} {m:Nat -> Nat -> Value} {L:Nat -> Nat -> List Int} {f:Int -> Int} {l:Nat -> List Int} (h:Y4a w B n m (Z0c L q (up f l k j))) (hq:q < 4) (hk:k < n q) (hj:j < (l k).length) :
    ∃ g cap,m q k = .slice (some ⟨g,0,none⟩) (l k).length cap /\ (l k).length <= cap /\ w.cell? ⟨g,j,none⟩ = some (.int .i64 (ix (l k) j)) /\ w.frozen? ⟨g,j,none⟩ = false /\
     (f (ix (l k) j) = ix (l k) j -> Y4a w B n m (Z0c L q (up f l k (j + 1)))) /\
     (∀ x,x = f (ix (l k) j) -> Y4a (w.setCell ⟨g,j,none⟩ (.int .i64 x)) B n m (Z0c L q (up f l k (j + 1))) /\ Keep 3 w (w.setCell ⟨g,j,none⟩ (.int .i64 x)) /\ Below B w (w.setCell ⟨g,j,none⟩ (.int .i64 x))) /\
     (∀ y,Keep 3 w (w.setCell ⟨g,j,none⟩ (.int .i64 y)) /\ (w.setCell ⟨g,j,none⟩ (.int .i64 y)).cell? ⟨g,j,none⟩ = some (.int .i64 y) /\ (w.setCell ⟨g,j,none⟩ (.int .i64 y)).frozen? ⟨g,j,none⟩ = false /\
      ∀ x,x = f (ix (l k) j) -> Y4a ((w.setCell ⟨g,j,none⟩ (.int .i64 y)).setCell ⟨g,j,none⟩ (.int .i64 x)) B n m (Z0c L q (up f l k (j + 1))) /\ Keep 3 w ((w.setCell ⟨g,j,none⟩ (.int .i64 y)).setCell ⟨g,j,none⟩ (.int .i64 x)) /\ Below B w ((w.setCell ⟨g,j,none⟩ (.int .i64 y)).setCell ⟨g,j,none⟩ (.int .i64 x))):=by
 have e1:Z0c L q (up f l k j) q k = up f l k j k:=by rw [J4d]
 have hjl:j < (Z0c L q (up f l k j) q k).length:=by rw [e1,Y6k]; exact hj
 obtain ⟨g,cap,hm,hc,cv,cf,hst⟩:=h.spot hq hk hjl;rw [e1,Y6k] at hm hc;rw [e1,J4q f l hj] at cv;have step:∀ p i,(if p = q /\ i = k then (up f l k j k).set j (f (ix (l k) j)) else Z0c L q (up f l k j) p i) = Z0c L q (up f l k (j + 1)) p i:=by
  intro p i;unfold Z0c
  by_cases hp:p = q
  . rw [if_pos hp,if_pos hp,<- J3b f l hj i]
    by_cases hi:i = k
    . rw [if_pos ⟨hp,hi⟩,if_pos hi]
    . rw [if_neg (fun e=>hi e.2),if_neg hi]
  . rw [if_neg (fun e=>hp e.1),if_neg hp,if_neg hp]
 refine ⟨g,cap,hm,hc,cv,cf,fun he=>?_,fun x hx=>?_,fun y=>?_⟩
 . refine h.congr fun p i _ _=>?_
   rw [<- step p i]
   by_cases hpi:p = q /\ i = k
   . rw [if_pos hpi,he,hpi.1,hpi.2,e1]
     have hjl2:j < (up f l k j k).length:=by rw [Y6k]; exact hj
     have e2:ix (l k) j = (up f l k j k)[j]:=by rw [<- J4q f l hj,Q6o hjl2]
     rw [e2,List.set_getElem_self]
   . rw [if_neg hpi]
 . subst hx
   obtain ⟨h1,h2,h3⟩:=hst (f (ix (l k) j));rw [e1] at h1;exact ⟨h1.congr fun p i _ _=>(step p i).symm,h2,h3⟩
 . obtain ⟨h1,h2,h3⟩:=hst y
   rw [e1] at h1;have e2:(fun p i=>if p = q /\ i = k then (up f l k j k).set j y else Z0c L q (up f l k j) p i:Nat -> Nat -> List Int) q k = (up f l k j k).set j y:=by
    show (if q = q /\ k = k then (up f l k j k).set j y else Z0c L q (up f l k j) q k) = _
    rw [if_pos ⟨rfl,rfl⟩]
   have hjl3:j < ((fun p i=>if p = q /\ i = k then (up f l k j k).set j y else Z0c L q (up f l k j) p i:Nat -> Nat -> List Int) q k).length:=by
    rw [e2,List.length_set,Y6k]; exact hj
   obtain ⟨g',cap',hm',_,cv',cf',hst'⟩:=h1.spot hq hk hjl3;rw [hm] at hm';injection hm' with hg _ _;injection hg with hg;injection hg with hg;subst hg;rw [if_pos (⟨rfl,rfl⟩:q = q /\ k = k),Q6o (by rw [List.length_set,Y6k]; exact hj),List.getElem_set_self] at cv'
   refine ⟨h2,cv',cf',fun x hx=>?_⟩;subst hx;obtain ⟨h4,h5,h6⟩:=hst' (f (ix (l k) j));refine ⟨h4.congr fun p i _ _=>?_,h2.trans h5,h3.trans h6⟩;rw [<- step p i]
   by_cases hpi:p = q /\ i = k
   . rw [if_pos hpi,if_pos hpi,if_pos (⟨rfl,rfl⟩:q = q /\ k = k),List.set_set]
   . rw [if_neg hpi,if_neg hpi,if_neg hpi]
end Go.Proofs
namespace Go.Proofs
open Go.RowKit Go.Tw Go.Flow
attribute [local go_sem ↓] Q2s Q4d Q2n Q3r
theorem But.J7o {α:Type} {O k:Nat} {T:TypeId} {enc:α -> List Value} {v:Value} {l:List α} {w w':World} (h:But O w w') (ho:Q1o w (O + 1) T k enc v l):Q1o w' (O + 1) T k enc v l:=by
 obtain ⟨h1,h2⟩:=ho;refine ⟨h1,?_⟩
 rcases h2 with h2 | ⟨g,cap,cur,hv,hbg,hgl,r⟩
 . exact .inl h2
 . refine .inr ⟨g,cap,cur,hv,hbg,?_,r⟩
   rw [h.2 g (Array.getElem?_eq_some_iff.1 hgl).1 (by omega)]; exact hgl
theorem But.J5o {O:Nat} {T:TypeId} {w w':World} (h:But O w w') (hO:∀ S ds,Blk w O S ds -> S = T):Keep T w w':=fun _ S ds hS hb=>h.blk hb (by rintro rfl; exact hS (hO S ds hb))
theorem J4l (W0 WB:World) (a b:Tree) (kind:ByteArray) (Ba Bb R Y O gx:Nat) (xa1 xb1 y1 y2:Value) (Aa Ga Bbs Gb Ab Ac Ag Gy:Option Addr) (ca cga cbb cgb cb cc nc cgy:Nat) (LC LG LY:List (ByteArray × Int × Value))
    (hst:X6j (Q0k a b kind)) (hsa:a.basics.length + b.basics.length <= 900) (hsg:a.gates.length + b.gates.length <= 900) (hab:a.basics.length + a.gates.length <= 900) (hnb:0 < a.basics.length) (hlg:LG.length = a.gates.length)
    (hia:∀ k,k < a.gates.length -> (Q0j a.gates k).length <= 1000 /\ ∀ x ∈ Q0j a.gates k,0 <= x /\ x < 1000)
    (hin:∀ k,k < b.gates.length -> (Q0j b.gates k).length <= 1000 /\ ∀ x ∈ Q0j b.gates k,0 <= x /\ x < 1000)
    (k3:Blk WB Ba 33 #[.slice Aa a.basics.length ca,xa1,.slice Ga a.gates.length cga]) (k4:Blk WB Bb 33 #[.slice Bbs b.basics.length cbb,xb1,.slice Gb b.gates.length cgb])
    (kR:Blk WB R 33 #[.slice none 0 0,.slice none 0 0,.slice none 0 0]) (kY:Blk WB Y 33 #[y1,y2,.slice Gy b.gates.length cgy]) (kO:Blk WB O 33 #[.slice Ab (a.basics.length + b.basics.length) cb,.slice Ac nc cc,.slice Ag LG.length LG.length])
    (hvb:Q1o WB 0 103 2 Q9x (.slice Ab (a.basics.length + b.basics.length) cb) (a.basics ++ b.basics)) (hvc:Q1o WB 0 106 3 enc3 (.slice Ac nc cc) LC) (htc:Q8r WB LC ((a.causes ++ b.causes.map (Q3m a.basics.length b.basics.length)).map Y4m))
    (hvg:Q1o WB 0 114 3 enc3 (.slice Ag LG.length LG.length) LG) (htg:Q8r WB LG (a.gates.map X6f))
    (hvy:Q1o WB (gx + 1) 114 3 enc3 (.slice Gy b.gates.length cgy) LY) (hty:Q8r WB LY (b.gates.map X6f))
    (hag:0 < LG.length -> Ag = some ⟨gx,0,none⟩) (hgx:∀ S ds,Blk WB gx S ds -> S = 114) (h0g:W0.heap.size <= gx)
    (hRO:R ≠ O) (hAO:Ba ≠ O) (hBO:Bb ≠ O) (hYO:Y ≠ O) (h0R:W0.heap.size <= R) (h0O:W0.heap.size <= O) (hx0:Ext W0 WB) (ua ub uc ud ue uf ug uh ui uj uk ul um un uo up uq ur us ut uu uv uw ux uy uz uA uB uC uD uE uF uG uH uI uJ uK uL uM uN uO uP uQ uR uS uT uU uV uW uX uY uZ u2 u3 u4 u6 Ua Ub Uc Ud Ue Uf Ug Uh Ui Uj Uk Ul Um Un Uo Up Uq Ur Us Ut Uu Uv Uw Ux Uy Uz UA UB UC UD UE UF UG UH UI UJ UK UL UM UN UO UP UQ UR US UT UU UV UW UX UY UZ U0 U1 U2 U3 U4 U5 U6 U7 U8 U9 ya yb yc yd ye yf yg yh yi yj yk yl ym yn yo yp yq yr ys yt yu yv yw yx yy yz yA yB yC yD yE yF yG yH yI yJ yK yL yM yN yO yP yQ yR yS yT yU yV yW yX yY yZ y0 y3 y4 y5 y6 y7 y8 y9 Ya Yb Yc Yd Ye Yf Yg Yh Yi Yj Yk Yl Ym Yn Yo:Value) :
    (codeFrom Tryz.f9 16).wp Tryz.prog (bodyPost Tryz.prog Tryz.f9 (fun e w'=>∃ u,e = .returned (.tuple #[u,.int .i64 0]) /\ Q7q 33 w' u (Q0k a b kind) /\ Ext W0 w')) ⟨#[ua,ub,.string kind,.pointer (some ⟨Ba,0,none⟩),.pointer (some ⟨Bb,0,none⟩),uc,.pointer (some ⟨R,0,none⟩),ud,ue,uf,ug,uh,.pointer (some ⟨Y,0,none⟩),.pointer (some ⟨O,0,none⟩),ui,uj,uk,ul,um,un,uo,up,uq,ur,us,ut,uu,uv,uw,ux,uy,uz,uA,uB,uC,uD,uE,uF,uG,uH,uI,uJ,uK,uL,uM,uN,uO,uP,uQ,uR,uS,uT,uU,uV,uW,uX,uY,uZ,u2,u3,u4,u6,Ua,Ub,Uc,Ud,Ue,Uf,Ug,Uh,Ui,Uj,Uk,Ul,Um,Un,Uo,Up,Uq,Ur,Us,Ut,Uu,Uv,Uw,Ux,Uy,Uz,UA,UB,UC,UD,UE,UF,UG,UH,UI,UJ,UK,UL,UM,UN,UO,UP,UQ,UR,US,UT,UU,UV,UW,UX,UY,UZ,U0,U1,U2,U3,U4,U5,U6,U7,U8,U9,ya,yb,yc,yd,ye,yf,yg,yh,yi,yj,yk,yl,ym,yn,yo,yp,yq,yr,ys,yt,yu,yv,yw,yx,yy,yz,yA,yB,yC,yD,yE,yF,yG,yH,yI,yJ,yK,yL,yM,yN,yO,yP,yQ,yR,yS,yT,yU,yV,yW,yX,yY,yZ,y0,y3,y4,y5,y6,y7,y8,y9,Ya,Yb,Yc,Yd,Ye,Yf,Yg,Yh,Yi,Yj,Yk,Yl,Ym,Yn,Yo],[]⟩ WB:=by
 conv=>arg 2; whnf
 have c2:=kO.cell 2;simp only [Go.Tw.gA,Go.Tw.gB,Go.Tw.gC] at c2;have HST:=Lib.hid hst;have HIA:=Lib.hid hia;have HIN:=Lib.hid hin;have KA:=Lib.hid k3;have KB:=Lib.hid k4;have KR:=Lib.hid kR;have KY:=Lib.hid kY;have KO:=Lib.hid kO;have HVB:=Lib.hid hvb;have HVC:=Lib.hid hvc;have HTC:=Lib.hid htc;have HVG:=Lib.hid hvg;have HTG:=Lib.hid htg;have HVY:=Lib.hid hvy;have HTY:=Lib.hid hty;have HLG:=Lib.hid hlg;have HAG:=Lib.hid hag;have HGX:=Lib.hid hgx;have HX0:=Lib.hid hx0;clear hst hia hin k3 k4 kR kY kO hvb hvc htc hvg htg hvy hty hlg hag hgx hx0;go_wp2;clear c2
 go_loopw [122] (fun i wr=>∃ (k:Nat) (L:List (ByteArray × Int × Value)),k <= LG.length /\ i = .int .i64 k /\ L.length = LG.length /\ Q1o wr 0 114 3 enc3 (.slice Ag LG.length LG.length) L /\ Q8r wr L (((a.gates.map (Q2d a.basics.length b.basics.length)).take k ++ a.gates.drop k).map X6f) /\ But gx WB wr /\ Ext W0 wr) (fun i _=>LG.length - (intOf i).toNat)
 case atStart=>exact ⟨0,LG,Nat.zero_le _,rfl,rfl,HVG.out,by simpa using HTG.out,But.refl _ _,HX0.out⟩
 case round =>
  obtain ⟨k,L,hk,rfl,hlen,hown,htri,hbut,hx⟩:=hrel;have HLEN:=Lib.hid hlen;have HOW:=Lib.hid hown;have HTR:=Lib.hid htri;have HBT:=Lib.hid hbut;have HX:=Lib.hid hx;clear hlen hown htri hbut hx
  by_cases hlt:k < LG.length
  . skip
    have hag:=HAG.out (by omega)
    subst hag;have hkL:k < L.length:=by rw [HLEN.out]; exact hlt
    have hka:k < a.gates.length:=by rw [<- HLG.out]; exact hlt
    obtain ⟨gy,cpy,cury,hey,hb0,hby,hcy,hmy,hsy,hty⟩:=X1c HOW.out (by omega)
    rw [HLEN.out] at hey;injection hey with hey1 _ hey3;injection hey1 with hey1;injection hey1 with hey1;subst hey1 hey3;have hl2:((a.gates.map (Q2d a.basics.length b.basics.length)).take k ++ a.gates.drop k).length = a.gates.length:=by simp; omega
    have hgk:((a.gates.map (Q2d a.basics.length b.basics.length)).take k ++ a.gates.drop k)[k]'(by omega) = a.gates[k]:=by
     rw [List.getElem_append_right (by simp; omega)]; simp [Nat.min_eq_left (Nat.le_of_lt hka)]
    obtain ⟨t1,t2,t3⟩:=HTR.out.2 k hkL (by rw [List.length_map]; omega)
    have hin:=HIA.out k hka;unfold Q0j at hin;rw [getD_at hka] at hin;simp only [List.getElem_map,hgk,X6f] at t1 t2 t3;obtain ⟨g0,hg0⟩:∃ x,a.gates[k] = x:=⟨_,rfl⟩;rw [hg0] at t1 t2 t3 hin;have e0:=Q6d Q0s hby hty hkL (j:=0) (by omega)
    have e1:=Q6d Q0s hby hty hkL (j:=1) (by omega)
    have e2:=Q6d Q0s hby hty hkL (j:=2) (by omega)
    simp only [enc3,List.getElem?_cons_zero,List.getElem?_cons_succ,Nat.add_zero] at e0 e1 e2;obtain ⟨A3,cap3,e9,_⟩:=Q0t.shape t3;have HEL:Hid (∀ m,enc3 (g0.kind,g0.need,m) = (enc3 L[k]).set 2 m):=Lib.hid (fun m=>by simp only [enc3,t1,t2]; rfl)
    rw [t1] at e0;rw [t2] at e1;rw [e9] at e2 t3;have hle:g0.inputs.length <= 1000:=hin.1;obtain ⟨nm,hnm⟩:∃ x,g0.kind = x:=⟨_,rfl⟩;obtain ⟨ch,hch⟩:∃ x,g0.need = x:=⟨_,rfl⟩;obtain ⟨ml,hml⟩:∃ x,g0.inputs = x:=⟨_,rfl⟩;rw [hnm] at e0 HEL;rw [hch] at e1 HEL;rw [hml] at e2 t3 hin hle;have HG0:Hid (g0 = ⟨nm,ch,ml⟩):=Lib.hid (by rw [<- hnm,<- hch,<- hml])
    have HGK:=Lib.hid hg0;have HMI:=Lib.hid hin;have HCY:=Lib.hid hcy;have HMY:=Lib.hid hmy;have HSY:=Lib.hid hsy;have HTK:=Lib.hid hty;have hkp:=HBT.out.J5o HGX.out;have xb:=Ext.box wr (.cells #[.string nm,.int .i64 ch,.slice A3 ml.length cap3] 114);have kb:=Blk.made wr 114 #[.string nm,.int .i64 ch,.slice A3 ml.length cap3];have HM2:=Lib.hid ((t3.below xb).ints (by omega))
    have HBY5:=Lib.hid (hby.ext xb);have HTR5:=Lib.hid (HTR.out.ext xb);have KO5:=Lib.hid ((hkp _ _ _ (by decide) KO.out).ext xb)
    have KA5:=Lib.hid ((hkp _ _ _ (by decide) KA.out).ext xb)
    have KB5:=Lib.hid ((hkp _ _ _ (by decide) KB.out).ext xb)
    have hgl:=hby.lt;have hkI:(k:Int) < LG.length:=by omega
    have hk3:k * 3 + 2 < cury.size:=by rw [hsy]; omega
    clear hin hnm hch hml hg0 t1 t2 t3 hby e9 xb HOW HTR hkp hcy hmy hsy hty hl2 hgk
    go_light
    go_wp2;obtain ⟨W5,hW5⟩:∃ X,wr.alloc (.cells #[.string nm,.int .i64 ch,.slice A3 ml.length cap3] 114) = X:=⟨_,rfl⟩;have hs5:W5.heap.size = wr.heap.size + 1:=by rw [<- hW5]; simp
    have HX5:Hid (Ext wr W5):=Lib.hid (by rw [<- hW5]; exact Ext.box wr _)
    rw [hW5] at HM2 HBY5 HTR5 KA5 KB5 KO5 kb ⊢;have KG:=Lib.hid kb;have hdr:=(Ext.refl W5).drew;clear hW5 kb e0 e1 e2;refine Flow.Q3s [.p,.w,.p,.p,.w,.p,.w,.p,.p,.w,.p,.w,.p,.p,.last] [0,1,2,3,4,5,6,7,8,9,10,11,12,13,14] [[],[0],[],[],[3],[],[5],[5,6],[],[8],[8,9],[3,4,5,6,7,8,9,10],[0,1,2,3,4,5,6,7,8,9,10,11],[0,1,2,3,4,5,6,7,8,9,10,11,12],[0,1,2,3,4,5,6,7,8,9,10,11,12,13]] [14]
     [.c 0 (.pointer (some ⟨O,2,none⟩)),.c 1 (.slice (some ⟨gx,0,none⟩) LG.length LG.length),.c 2 (.int .i64 k),.c 3 (.pointer (some ⟨wr.heap.size,2,none⟩)),.c 4 (.slice A3 ml.length cap3),.c 5 (.pointer (some ⟨Ba,0,none⟩)),.c 6 (.slice Aa a.basics.length ca),.c 7 (.int .i64 ((a.basics.length:Nat):Int)),.c 8 (.pointer (some ⟨Bb,0,none⟩)),.c 9 (.slice Bbs b.basics.length cbb),.c 10 (.int .i64 ((b.basics.length:Nat):Int)),⟨fun v wz=>(fun v w'=>Q0t w' 0 3 (.int .i64) (v 11) (Q2p a.basics.length 0 b.basics.length ml)) v wz,fun _ _ _ hx h=>Q0t.below h hx⟩,.c 12 (.pointer (some ⟨gx,k * 3,none⟩)),.c 13 (.pointer (some ⟨gx,k * 3 + 2,none⟩)),.none]
     [fun v w1 w'=>w' = w1.setCell ⟨gx,k * 3 + 2,none⟩ (v 11)] (by kernel_rfl) rfl (by kernel_rfl) ⟨?g0,?g1,?g2,?g3,?g4,?g5,?g6,?g7,?g8,?g9,?g10,?g11,?g12,?g13,?g14,trivial⟩ ?post
    case g0 | g2 | g3 | g5 | g8=>
     intro v w1 hx;intro bb hbb;subst hbb;refine ⟨_,fun w=>?_,rfl⟩;go_simp
    case g1 | g4 | g6 | g9=>
     intro v w1 hx;(repeat intro (zq:v _ = _));intro bb hbb;subst hbb;have n0:w1.cell? ⟨O,2,none⟩ = some (.slice (some ⟨gx,0,none⟩) LG.length LG.length):=(KO5.out.ext (hdr.trans hx)).cell 2;have n1:w1.cell? ⟨wr.heap.size,2,none⟩ = some (.slice A3 ml.length cap3):=(KG.out.ext (hdr.trans hx)).cell 2;have n2:w1.cell? ⟨Ba,0,none⟩ = some (.slice Aa a.basics.length ca):=(KA5.out.ext (hdr.trans hx)).cell 0;have n3:w1.cell? ⟨Bb,0,none⟩ = some (.slice Bbs b.basics.length cbb):=(KB5.out.ext (hdr.trans hx)).cell 0;intro K hK;go_simp;exact hK _ _ (Ext.refl _) rfl
    case g7 | g10=>
     intro v w1 hx;(repeat intro (zq:v _ = _));intro bb hbb;subst hbb;refine ⟨_,fun w=>?_,rfl⟩;go_simp
    case g11=>
     intro v w1 hx;(repeat intro (zq:v _ = _));intro bb hbb;subst hbb;intro K hK;go_simp;refine Q0d (X9n w1 _ ml _ _ _ (HM2.out.ext (hdr.trans hx)) (by omega) HMI.out.2 (by omega) (by omega)) ?_
     rintro e w2 ⟨u,rfl,hown,hx2⟩;exact ⟨_,rfl,hK _ _ hx2 (Q0t.weaken hown (Nat.zero_le _))⟩
    case g12=>
     intro v w1 hx (q0:v 0 = _) (q1:v 1 = _) (q2:v 2 = _) (q3:v 3 = _) (q4:v 4 = _) (q5:v 5 = _) (q6:v 6 = _) (q7:v 7 = _) (q8:v 8 = _) (q9:v 9 = _) (q10:v 10 = _) _;intro bb hbb;subst hbb;refine ⟨_,fun w=>?_,rfl⟩;go_simp
    case g13=>
     intro v w1 hx (q0:v 0 = _) (q1:v 1 = _) (q2:v 2 = _) (q3:v 3 = _) (q4:v 4 = _) (q5:v 5 = _) (q6:v 6 = _) (q7:v 7 = _) (q8:v 8 = _) (q9:v 9 = _) (q10:v 10 = _) _ (q12:v 12 = _);intro bb hbb;subst hbb;refine ⟨_,fun w=>?_,rfl⟩;go_simp
    case g14=>
     intro v w1 hx (q0:v 0 = _) (q1:v 1 = _) (q2:v 2 = _) (q3:v 3 = _) (q4:v 4 = _) (q5:v 5 = _) (q6:v 6 = _) (q7:v 7 = _) (q8:v 8 = _) (q9:v 9 = _) (q10:v 10 = _) (q11:(fun v w'=>Q0t w' 0 3 (.int .i64) (v 11) (Q2p a.basics.length 0 b.basics.length ml)) v w1) (q12:v 12 = _) (q13:v 13 = _);intro wl hT;obtain rfl:wl = w1:=hT;intro bb hbb;intro K hK;obtain ⟨s9,c9,e9,_⟩:=Q0t.shape q11;have o1:bb.eval (.tmp 140) = .pointer (some ⟨gx,k * 3 + 2,none⟩):=by rw [hbb]; dsimp only; (try simp (discharger:=decide) only [eval_put_ne]); rw [Q0a (by simp only [size_put]; exact (by decide:140 < 199))]; exact q13
     have o2:bb.eval (.tmp 138) = v 11:=by rw [hbb]; dsimp only; (try simp (discharger:=decide) only [eval_put_ne]); rw [Q0a (by simp only [size_put]; exact (by decide:138 < 199))]
     exact Q3a _ _ rfl Tryz.Y2a o1 o2 (by rw [e9]; rfl) (by rw [e9]; rfl) (HBY5.out.ext (hdr.trans hx)) hk3 (fun v'=>hK _ _ rfl)
    case post =>
     intro v w1 hx;(iterate 11 intro (zq:v _ = _));intro (q11:(fun v w'=>Q0t w' 0 3 (.int .i64) (v 11) (Q2p a.basics.length 0 b.basics.length ml)) v w1);(iterate 2 intro (zq:v _ = _));intro w2 hE;replace hE:(fun v w1 w'=>w' = w1.setCell ⟨gx,k * 3 + 2,none⟩ (v 11)) v w1 w2:=hE;simp only [Flow.acts,Act.put];go_simp;subst hE;have hxx:=hdr.trans hx;have hbG:=HBY5.out.ext hxx;have hset:∀ n,n <= gx -> Below n w1 (w1.setCell ⟨gx,k * 3 + 2,none⟩ (v 11)):=fun n hn=>(Below.refl n _).setCell (p:=⟨gx,k * 3 + 2,none⟩) hn _;have hks:Keep 114 w1 (w1.setCell ⟨gx,k * 3 + 2,none⟩ (v 11)):=Keep.store hbG fun _ hj=>Below.heap_setCell _ _ _ _ hj;have HO6:=Lib.hid (Y3g (base:=0) (y:=(nm,ch,v 11)) Q0s (Nat.zero_le _) (by rw [HLEN.out]; exact Nat.le_refl _:L.length <= LG.length) HMY.out HSY.out HTK.out hkL (j:=2) (by omega) (HEL.out _) (hbG.set _ _))
     have HT6:=Lib.hid (((HTR5.out.ext hxx).keep (by decide) hks).set hkL nm ch (Q3x q11 (by decide) hks))
     have HX6:Hid (Ext W0 (w1.setCell ⟨gx,k * 3 + 2,none⟩ (v 11))):=Lib.hid (Below.trans ((HX.out.trans HX5.out).trans hxx) (hset _ h0g));have HBT6:Hid (But gx WB (w1.setCell ⟨gx,k * 3 + 2,none⟩ (v 11))):=Lib.hid (⟨by have h1:=HBT.out.1; have h2:=HX5.out.size; have h3:=hxx.size; have h5:=(hset 0 (Nat.zero_le _)).size; omega,fun c hc hne=>by
      have h1:=HBT.out.1;rw [Below.heap_setCell _ _ _ _ hne,hxx.block c (by omega),HX5.out.block c (by omega)]
      exact HBT.out.2 c hc hne⟩)
     have etake:(((a.gates.map (Q2d a.basics.length b.basics.length)).take k ++ a.gates.drop k).map X6f).set k (nm,ch,Q2p a.basics.length 0 b.basics.length ml) = ((a.gates.map (Q2d a.basics.length b.basics.length)).take (k + 1) ++ a.gates.drop (k + 1)).map X6f:=by
      have e1:((a.gates.map (Q2d a.basics.length b.basics.length)).take k).length = k:=by simp; omega
      rw [List.take_add_one,List.getElem?_eq_getElem (by simpa using hka),List.drop_eq_getElem_cons hka,List.map_append,List.set_append_right _ _ (by rw [List.length_map,e1]; exact Nat.le_refl _),List.length_map,e1,Nat.sub_self,List.map_cons,List.set_cons_zero]
      simp only [Option.toList_some,List.getElem_map,HGK.out,HG0.out,Q2d,List.map_append,List.append_assoc];rfl
     rw [etake] at HT6;rw [HLEN.out] at HO6;obtain ⟨w6,hw6⟩:∃ y,w1.setCell ⟨gx,k * 3 + 2,none⟩ (v 11) = y:=⟨_,rfl⟩;rw [hw6] at HX6 HT6 HBT6 HO6 ⊢;obtain ⟨L6,hL6⟩:∃ y,L.set k (nm,ch,v 11) = y:=⟨_,rfl⟩;rw [hL6] at HO6 HT6;have hl6:L6.length = LG.length:=by rw [<- hL6,List.length_set,HLEN.out]
     clear hset hks hw6 hL6 etake hxx hx hdr hbG q11;(repeat clear zq);go_wp2;go_roundw
     case rel=>exact ⟨k + 1,L6,by omega,by go_num,hl6,HO6.out,HT6.out,HBT6.out,HX6.out⟩
     case measure=>simp [intOf]; omega
  . obtain rfl:k = LG.length:=by omega
    have HTR2:Hid (Q8r wr L ((a.gates.map (Q2d a.basics.length b.basics.length)).map X6f)):=Lib.hid (by have h:=HTR.out; rw [HLG.out,List.take_of_length_le (by simp),List.drop_length,List.append_nil] at h; exact h)
    clear HTR;go_upto_if 123 with fail
    go_step
    go_step
    go_step
    go_step
    go_step
    go_step
    have hkp:=HBT.out.J5o HGX.out;have ht:33 ≠ 114:=by decide
    have hl:=HLEN.out;exact J5j W0 wr a b kind Ba Bb R Y O xa1 xb1 y1 y2 Aa Ga Bbs Gb Ab Ac Ag Gy ca cga cbb cgb cb cc nc cgy LC L LY HST.out hsa hsg hab hnb (by rw [hl,HLG.out]) HIN.out (hkp _ _ _ ht KA.out) (hkp _ _ _ ht KB.out) (hkp _ _ _ ht KR.out) (hkp _ _ _ ht KY.out) (by rw [hl]; exact hkp _ _ _ ht KO.out) (Q1k HVB.out (by decide) hkp) (Q1k HVC.out (by decide) hkp) (HTC.out.keep (by decide) hkp) (by rw [hl]; exact HOW.out) HTR2.out (Q8p (HBT.out.J7o HVY.out) (Nat.zero_le _)) (HTY.out.keep (by decide) hkp) hRO hAO hBO hYO h0R h0O HX.out _ _ _ _ _ _ _ _ _ _ _ _ _ _ _ _ _ _ _ _ _ _ _ _ _ _ _ _ _ _ _ _ _ _ _ _ _ _ _ _ _ _ _ _ _ _ _ _ _ _ _ _ _ _ _ _ _ _ _ _ _ _ _ _ _ _ _ _ _ _ _ _ _ _ _ _ _ _ _ _ _ _ _ _ _ _ _ _ _ _ _ _ _ _ _ _ _ _ _ _ _ _ _ _ _ _ _ _ _ _ _ _ _ _ _ _ _ _ _ _ _ _ _ _ _ _ _ _ _ _ _ _ _ _ _ _ _ _ _ _ _ _ _ _ _ _ _ _ _ _ _ _ _ _ _ _ _ _ _ _ _ _ _ _ _ _ _ _ _ _ _ _ _ _ _ _ _ _ _ _ _ _ _ _ _ _ _ _ _ _ _ _ _
end Go.Proofs
