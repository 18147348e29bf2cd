/- The program's contracts at the document's seasons. Contract of the law's own function: awake. Contract of the law's own function: ints. -/
import Derived.Test.YthnobngcipaljaaGreatDoorPn23
import Derived.Test.YthnobngcipaljaaGreatDoorPn31
import Derived.Test.YthnobngcipaljaaGreatDoorPn30
import Derived.Test.YthnobngcipaljaaGreatDoorPn29
import Derived.Test.YthnobngcipaljaaGreatDoorPn32
import Derived.Test.YthnobngcipaljaaGreatDoorPn33
import Derived.Test.YthnobngcipaljaaGreatDoorPn34
import Derived.Test.YthnobngcipaljaaGreatDoorPn20
import Derived.Test.YthnobngcipaljaaGreatDoorPn21
set_option maxRecDepth 1000000
set_option maxHeartbeats 64000000
set_option linter.unusedVariables false
set_option linter.unusedSimpArgs false
set_option linter.constructorNameAsVariable false
open Go.Lib (hid)
namespace Go.Proofs
open Go.RowKit Go.Tw Go.Flow
set_option maxRecDepth 100000
def rlA:List Rul:=X2l false true false
def rlB:List Rul:=X2l true true false
def Z7l:ByteArray:=⟨#[48,32,111,112,101,110,10,48,32,48,32,99,108,111,115,101,10,48,32,49,32,111,112,101,110,10]⟩
theorem Q2b:Q3x Q0q:=⟨by decide,by decide,fun i hi=>by
 have:i=0 ∨ i=1 ∨ i=2:=by simp [Q0q] at hi; omega
 rcases this with rfl | rfl | rfl <;> exact ⟨by decide,by decide,by decide,by decide⟩⟩
theorem Y7r:Q3x Q7f:=⟨by decide,by decide,fun i hi=>by
 have:i=0:=by simp [Q7f] at hi; omega
 subst this; exact ⟨by decide,by decide,by decide,by decide⟩⟩
theorem X4t:Q0q.hist.length <= 9:=by rw [J4b]; decide
theorem J5i:J0h Q0q=[[0],[0,0],[0,1]]:=by kernel_rfl
theorem Z7a:Q1i Q0q rlA=0:=by kernel_rfl
theorem J2e:Q1i Q0q rlB=0:=by kernel_rfl
theorem J3l:X3z Q0q rlA 0=0:=by kernel_rfl
theorem J3f:Z9w Q0q rlA 0=[false,true]:=by kernel_rfl
theorem J2r:J1n Q0q rlA 0=[20,10]:=by kernel_rfl
theorem J5n:Y7x Q0q rlA=[0,2]:=by kernel_rfl
theorem J0a:Q6t Q0q rlA=⟨3,4⟩:=by kernel_rfl
theorem J5f:Q7w Q0q rlA=2:=by kernel_rfl
theorem J2s:Y1u Q0q rlB=34:=by kernel_rfl
theorem J5p:J1p Q0q=4:=by kernel_rfl
theorem J7v:Y4x Q0q 4=(6,34,0):=by kernel_rfl
theorem J7f:Y9d Q0q 4=rlB:=by kernel_rfl
theorem J7t:Y4x Q0q 3=(2,14,0):=by kernel_rfl
theorem J6l:Y3l Q0q 0=[false,true]:=by kernel_rfl
theorem J7a:Y6t Q0q 0=0:=by kernel_rfl
theorem J6x:X4x Q0q rlB=3:=by kernel_rfl
theorem J4w:Q9y Q0q 5=0:=by kernel_rfl
theorem J5o:X5h Q0q 5=[⟨[0],2⟩,⟨[1,2],2⟩]:=by kernel_rfl
theorem J7b:X9l Q7f 0=1:=by kernel_rfl
theorem J6r:Y0d Q7f 0=0:=by kernel_rfl
theorem J6k:Q7i rlA=0:=by kernel_rfl
theorem J7g:Z2z rlA=Z7l:=by kernel_rfl
theorem J5r (w:World) (u:Value) (hu:Q0f w u Q0q) :
    Calls Tryz.prog 42 #[u] w fun e w'=>∃ x,e=.returned (.tuple #[x,.int .i64 0]) /\ Q3q w' x [[0],[0,0],[0,1]] /\ Ext w w':=by
 have h:=Y0y w u Q0q hu Q2b;rw [J2b,J5i] at h;exact h
theorem J5v (w:World) (u p:Value) (hu:Q0f w u Q0q) (hp:Q0j w p rlA) :
    Calls Tryz.prog 57 #[u,p,.int .i64 0] w fun e w'=>∃ x y,e=.returned (.tuple #[.agg #[x,y],.int .i64 0]) /\ Q0r w' x [false,true] /\ Q0e w' y [20,10] /\ Ext w w':=by
 refine (Z8o w u p Q0q rlA 0 hu hp Q2b (by decide)).mono ?_
 rintro e w' ⟨⟨x,y,rfl,h1,h2⟩,hx⟩;rw [J3f] at h1;rw [J2r] at h2;exact ⟨x,y,by rw [J3l],h1,h2,hx⟩
theorem J4t (w:World) (u p:Value) (hu:Q0f w u Q0q) (hp:Q0j w p rlA) :
    Calls Tryz.prog 33 #[u,p] w fun e w'=>∃ x,e=.returned (.tuple #[x,.int .i64 0]) /\ Q0e w' x [0,2] /\ Ext w w':=by
 have h:=X2y w u p Q0q rlA hu hp Q2b (by decide)
 rw [Z7a,J5n] at h;exact h
theorem J0f (w:World) (u p:Value) (hu:Q0f w u Q0q) (hp:Q0j w p rlA) :
    Calls Tryz.prog 64 #[u,p] w fun e w'=>e=.returned (.tuple #[.agg #[.int .i64 3,.int .i64 4],.int .i64 0]) /\ Ext w w':=by
 have h:=X6k w u p Q0q rlA hu hp Q2b (by decide)
 rw [Z7a,J0a] at h;exact h
theorem J6d (w:World) (u p:Value) (hu:Q0f w u Q0q) (hp:Q0j w p rlA) :
    Calls Tryz.prog 37 #[u,p] w fun e w'=>e=.returned (.tuple #[.int .i64 2,.int .i64 0]) /\ Ext w w':=by
 have h:=X3p w u p Q0q rlA hu hp Q2b (by decide)
 rw [Z7a,J5f] at h;exact h
theorem J4d (w:World) (u p:Value) (hu:Q0f w u Q0q) (hp:Q0j w p rlB) :
    Calls Tryz.prog 38 #[u,p] w fun e w'=>e=.returned (.tuple #[.int .i64 34,.int .i64 0]) /\ Ext w w':=by
 have h:=Y2g w u p Q0q rlB hu hp Q2b (by decide)
 rw [J2e,J2s] at h;exact h
theorem J6b (w:World) (u:Value) (hu:Q0f w u Q0q) :
    Calls Tryz.prog 19 #[u] w fun e w'=>e=.returned (.tuple #[.int .i64 4,.int .i64 0]) /\ Ext w w':=by
 have h:=Z6w w u Q0q hu Q2b X4t;rw [J2b,J5p] at h;exact h
theorem J2o (w:World) (u:Value) (hu:Q0f w u Q0q) :
    Calls Tryz.prog 21 #[u,.int .i64 4] w fun e w'=>∃ x,e=.returned (.tuple #[.agg #[x],.int .i64 6,.int .i64 34,.int .i64 0]) /\ Q3u w' x rlB /\ Ext w w':=by
 refine (Y5m w u Q0q 4 hu Q2b X4t).mono ?_;rintro e w' ⟨⟨x,rfl,h1⟩,hx⟩;exact ⟨x,by rw [J7v],by rw [J7f] at h1; exact h1,hx⟩
theorem J2y (w:World) (u:Value) (hu:Q0f w u Q0q) :
    Calls Tryz.prog 21 #[u,.int .i64 3] w fun e w'=>∃ x,e=.returned (.tuple #[.agg #[x],.int .i64 2,.int .i64 14,.int .i64 0]) /\ Q3u w' x (Y9d Q0q 3) /\ Ext w w':=by
 refine (Y5m w u Q0q 3 hu Q2b X4t).mono ?_;rintro e w' ⟨⟨x,rfl,h1⟩,hx⟩;exact ⟨x,by rw [J7t],by exact h1,hx⟩
theorem J2z (w:World) (u:Value) (hu:Q0f w u Q0q) :
    Calls Tryz.prog 50 #[u,.int .i64 0] w fun e w'=>∃ x,e=.returned (.tuple #[x,.int .i64 1,.int .i64 0]) /\ Q0r w' x [false,true] /\ Ext w w':=by
 have h:=Z3k w u Q0q 0 hu Q2b;rw [J6l,J7a] at h;exact h
theorem J0r (w:World) (u p:Value) (hu:Q0f w u Q0q) (hp:Q0j w p rlB) :
    Calls Tryz.prog 65 #[u,p] w fun e w'=>e=.returned (.tuple #[.int .i64 3,.int .i64 0]) /\ Ext w w':=by
 have h:=X9i w u p Q0q rlB hu hp Q2b (by decide)
 rw [J2e,J6x] at h;exact h
theorem J0s (w:World) (u:Value) (hu:Q0f w u Q0q) :
    Calls Tryz.prog 39 #[u,.int .i64 5] w fun e w'=>∃ x,e=.returned (.tuple #[x,.int .i64 0]) /\ Q5j w' x [⟨[0],2⟩,⟨[1,2],2⟩] /\ Ext w w':=by
 have h:=Z1a w u Q0q 5 hu Q2b;rw [J4w,J5o] at h;exact h
theorem J1e (w:World) (u:Value) (hu:Q0f w u Q7f) :
    Calls Tryz.prog 41 #[u,.int .i64 0] w fun e w'=>e=.returned (.tuple #[.int .i64 1,.int .i64 0]) /\ Ext w w':=by
 have h:=Z0c w u Q7f 0 hu Y7r;rw [J7b,J6r] at h;exact h
theorem J3z (w:World) (p:Value) (hp:Q0j w p rlA) (hW:Words w) :
    Calls Tryz.prog 81 #[p] w fun e w'=>e=.returned (.tuple #[.string Z7l,.int .i64 0]) /\ Ext w w':=by
 have h:=Z3o w p rlA hp (by decide) hW
 rw [J7g,J6k] at h;exact h
theorem Q7m (w:World) (u v:Value) (l:List Int) (hu:Q0e w u l) (hv:Q0e w v l) :
    Calls Tryz.prog 54 #[u,v] w fun e w'=>e=.returned (.bool true) /\ Ext w w':=by
 have h:=Q4a w u v _ _ hu hv;rw [decide_eq_true rfl] at h;exact h
theorem Z6x (w:World) (u v:Value) (l:List Bool) (hu:Q0r w u l) (hv:Q0r w v l) :
    Calls Tryz.prog 55 #[u,v] w fun e w'=>e=.returned (.bool true) /\ Ext w w':=by
 have h:=Y3t w u v _ _ hu hv;rw [decide_eq_true rfl] at h;exact h
theorem J2m (w:World) (u v:Value) (l:List Rul) (hu:Q0j w u l) (hv:Q0j w v l) :
    Calls Tryz.prog 48 #[u,v] w fun e w'=>e=.returned (.bool true) /\ Ext w w':=by
 have h:=Y1i w u v _ _ hu hv;rw [show X8h l l=true from decide_eq_true rfl] at h
 exact h
theorem J3k (w:World) (u v:Value) (l:List Grp) (hu:Q5j w u l) (hv:Q5j w v l) :
    Calls Tryz.prog 74 #[u,v] w fun e w'=>e=.returned (.bool true) /\ Ext w w':=by
 have h:=Y1t w u v _ _ hu hv;rw [show X9b l l=true from decide_eq_true rfl] at h
 exact h
theorem Y5r {w:World} {g:Nat} {T:TypeId} {cs:Array Value} {l:List Bool} {n:Nat} (h:Blk w g T cs) (hc:cs=(l.map Value.bool).toArray) (hl:l.length=n) (hn:n <= 1000):Q0r w (.slice (some ⟨g,0,none⟩) n n) l:=by
 subst hc;refine X5a (k:=1) h hl hn (by simp [hl]) fun i hi=>?_
 show (List.map Value.bool l).toArray.getD (i * 1 + 0) undef=_;simp [hi]
theorem Y4z (w:World):(binOp .neq 107 (.agg #[.int .i64 3,.int .i64 4]) (.agg #[.int .i64 3,.int .i64 4])).run Tryz.prog w=.ok (.bool false) w:=by kernel_rfl
theorem Z5s:Z7l.toList=[48,32,111,112,101,110,10,48,32,48,32,99,108,111,115,101,10,48,32,49,32,111,112,101,110,10]:=by simp [Z7l,go_sem]
theorem J3w:(Z7l.toList == [48,32,111,112,101,110,10,48,32,48,32,99,108,111,115,101,10,48,32,49,32,111,112,101,110,10])=true:=by rw [Z5s]; decide
end Go.Proofs
namespace Go.Proofs
open Go.RowKit Go.Tw Go.Flow
attribute [local go_sem ↓] Y4z
def At (w:World) (p:Addr) (v:Value):Prop:=w.cell? p=some v
theorem At.ext {w w':World} {p:Addr} {v:Value} (h:At w p v) (hx:Ext w w'):At w' p v:=hx.cell h
theorem J3r {w:World} {g:Nat} {T:TypeId} {x y z:Value} (h:Blk w g T #[.string ⟨#[122]⟩,.int .i64 1,x,y,z]) (hx:Q0e w x [0,0]) (hy:Q0e w y [40,40]) (hz:Q0e w z [20,20]):X0b w (.slice (some ⟨g,0,none⟩) 1 1) Q7f.members :=
 X5a h rfl (by omega) rfl fun i hi=>by
  have:i=0:=by simp [Q7f] at hi; omega
  subst this;exact ⟨rfl,rfl,hx,hy,hz,Z3d _⟩
theorem J1b {w:World} {g:Nat} {T:TypeId} {x y:Value} (h:Blk w g T #[x,.int .i64 2,y,.int .i64 2]) (hx:Q0e w x [0]) (hy:Q0e w y [1,2]):Q5j w (.slice (some ⟨g,0,none⟩) 2 2) [⟨[0],2⟩,⟨[1,2],2⟩] :=
 X5a h rfl (by omega) rfl fun i hi=>by
  have:i=0 ∨ i=1:=by simp at hi; omega
  rcases this with rfl | rfl
  . exact ⟨hx,rfl⟩
  . exact ⟨hy,rfl⟩
theorem Q5v (w:World) (hW:Words w) :
    Calls Tryz.prog 18 #[] w fun e w'=>e=.returned (.bool true) /\ Ext w w':=by
 have HXA:=hid (Ext.refl w);have HWD:=hid hW;clear hW;go_enter Tryz.func18,Tryz.ntmps18;go_wp2_with fail;refine (Q2r _).mono ?_;rintro e w1 ⟨u1,rfl,hu,hx⟩;have hxx:Ext w w1:=hx;replace HXA:=hid (HXA.out.trans hxx);replace HWD:=hid (HWD.out.ext hxx);clear hx hxx;have HU:=hid hu;clear hu;go_wp2_with fail;refine (J5r _ _ HU.out).mono ?_;rintro e w2 ⟨xh,rfl,hr,hx⟩;have hxx:Ext w1 w2:=hx;replace HXA:=hid (HXA.out.trans hxx);clear HU;replace HWD:=hid (HWD.out.ext hxx);clear hx hxx;have FH:=hid hr;clear hr;go_wp2_with fail;refine (Q2r _).mono ?_;rintro e w3 ⟨u2,rfl,hu,hx⟩;have hxx:Ext w2 w3:=hx;replace HXA:=hid (HXA.out.trans hxx);replace HWD:=hid (HWD.out.ext hxx);replace FH:=hid (FH.out.ext hxx);clear hx hxx;have HU:=hid hu;clear hu;go_wp2_with fail;refine (Q5w _ false true false).mono ?_;rintro e w4 ⟨p3,rfl,hp,hx⟩;have hxx:Ext w3 w4:=hx;replace HXA:=hid (HXA.out.trans hxx);replace HWD:=hid (HWD.out.ext hxx);replace FH:=hid (FH.out.ext hxx);replace HU:=hid (HU.out.ext hxx);clear hx hxx;have HP:=hid hp;clear hp;go_wp2_with fail;refine (J5v _ _ _ HU.out HP.out).mono ?_;rintro e w5 ⟨xa,xb,rfl,ha,hb,hx⟩;have hxx:Ext w4 w5:=hx;replace HXA:=hid (HXA.out.trans hxx);clear HU HP;replace HWD:=hid (HWD.out.ext hxx);replace FH:=hid (FH.out.ext hxx);clear hx hxx;obtain ⟨Aa,ca,rfl,-,-,-⟩:=ha.opened;obtain ⟨Ab,cb,rfl,-,-,-⟩:=hb.opened;have FA:=hid ha;clear ha;have FB:=hid hb;clear hb;go_wp2_with fail;change Calls _ _ _ (w5.alloc (.cells #[.slice Aa 2 ca,.slice Ab 2 cb] 96)) _;obtain ⟨W,hWW,k0,HXW,eW⟩:=Q1u w5 96 #[.slice Aa 2 ca,.slice Ab 2 cb];rw [hWW];clear hWW;refine (Q2r _).mono ?_;rintro e w6 ⟨u4,rfl,hu,hx⟩;have hxx:Ext w5 w6:=HXW.out.trans hx;replace HXA:=hid (HXA.out.trans hxx);replace HWD:=hid (HWD.out.ext hxx);replace FH:=hid (FH.out.ext hxx);replace FA:=hid (FA.out.ext hxx);replace FB:=hid (FB.out.ext hxx);have BC:=hid (k0.ext hx);clear hx hxx HXW eW k0;have HU:=hid hu;clear hu;go_wp2_with fail;refine (Q5w _ false true false).mono ?_;rintro e w7 ⟨p5,rfl,hp,hx⟩;have hxx:Ext w6 w7:=hx;replace HXA:=hid (HXA.out.trans hxx);replace HWD:=hid (HWD.out.ext hxx);replace FH:=hid (FH.out.ext hxx);replace FA:=hid (FA.out.ext hxx);replace FB:=hid (FB.out.ext hxx);replace BC:=hid (BC.out.ext hxx);replace HU:=hid (HU.out.ext hxx);clear hx hxx;have HP:=hid hp;clear hp;go_wp2_with fail;refine (J4t _ _ _ HU.out HP.out).mono ?_;rintro e w8 ⟨xk,rfl,hk,hx⟩;have hxx:Ext w7 w8:=hx;replace HXA:=hid (HXA.out.trans hxx);clear HU HP;replace HWD:=hid (HWD.out.ext hxx);replace FH:=hid (FH.out.ext hxx);replace FA:=hid (FA.out.ext hxx);replace FB:=hid (FB.out.ext hxx);replace BC:=hid (BC.out.ext hxx);clear hx hxx;have FK:=hid hk;clear hk;go_wp2_with fail;refine (Q2r _).mono ?_;rintro e w9 ⟨u6,rfl,hu,hx⟩;have hxx:Ext w8 w9:=hx;replace HXA:=hid (HXA.out.trans hxx);replace HWD:=hid (HWD.out.ext hxx);replace FH:=hid (FH.out.ext hxx);replace FA:=hid (FA.out.ext hxx);replace FB:=hid (FB.out.ext hxx);replace BC:=hid (BC.out.ext hxx);replace FK:=hid (FK.out.ext hxx);clear hx hxx;have HU:=hid hu;clear hu;go_wp2_with fail;refine (Q5w _ false true false).mono ?_;rintro e w10 ⟨p7,rfl,hp,hx⟩;have hxx:Ext w9 w10:=hx;replace HXA:=hid (HXA.out.trans hxx);replace HWD:=hid (HWD.out.ext hxx);replace FH:=hid (FH.out.ext hxx);replace FA:=hid (FA.out.ext hxx);replace FB:=hid (FB.out.ext hxx);replace BC:=hid (BC.out.ext hxx);replace FK:=hid (FK.out.ext hxx);replace HU:=hid (HU.out.ext hxx);clear hx hxx;have HP:=hid hp;clear hp;go_wp2_with fail;refine (J0f _ _ _ HU.out HP.out).mono ?_;rintro e w11 ⟨rfl,hx⟩;have hxx:Ext w10 w11:=hx;replace HXA:=hid (HXA.out.trans hxx);clear HU HP;replace HWD:=hid (HWD.out.ext hxx);replace FH:=hid (FH.out.ext hxx);replace FA:=hid (FA.out.ext hxx);replace FB:=hid (FB.out.ext hxx);replace BC:=hid (BC.out.ext hxx)
 replace FK:=hid (FK.out.ext hxx);clear hx hxx;go_wp2_with fail;change Calls _ _ _ (w11.alloc (.cells #[.int .i64 3,.int .i64 4] 107)) _;obtain ⟨W,hWW,k0,HXW,eW⟩:=Q1u w11 107 #[.int .i64 3,.int .i64 4];rw [hWW];clear hWW;refine (Q2r _).mono ?_;rintro e w12 ⟨u8,rfl,hu,hx⟩;have hxx:Ext w11 w12:=HXW.out.trans hx;replace HXA:=hid (HXA.out.trans hxx);replace HWD:=hid (HWD.out.ext hxx);replace FH:=hid (FH.out.ext hxx);replace FA:=hid (FA.out.ext hxx);replace FB:=hid (FB.out.ext hxx);replace BC:=hid (BC.out.ext hxx);replace FK:=hid (FK.out.ext hxx);have BR:=hid (k0.ext hx);clear hx hxx HXW eW k0;have HU:=hid hu;clear hu;go_wp2_with fail;refine (Q5w _ false true false).mono ?_;rintro e w13 ⟨p9,rfl,hp,hx⟩;have hxx:Ext w12 w13:=hx;replace HXA:=hid (HXA.out.trans hxx);replace HWD:=hid (HWD.out.ext hxx);replace FH:=hid (FH.out.ext hxx);replace FA:=hid (FA.out.ext hxx);replace FB:=hid (FB.out.ext hxx);replace BC:=hid (BC.out.ext hxx);replace FK:=hid (FK.out.ext hxx);replace BR:=hid (BR.out.ext hxx);replace HU:=hid (HU.out.ext hxx);clear hx hxx;have HP:=hid hp;clear hp;go_wp2_with fail;refine (J6d _ _ _ HU.out HP.out).mono ?_;rintro e w14 ⟨rfl,hx⟩;have hxx:Ext w13 w14:=hx;replace HXA:=hid (HXA.out.trans hxx);clear HU HP;replace HWD:=hid (HWD.out.ext hxx);replace FH:=hid (FH.out.ext hxx);replace FA:=hid (FA.out.ext hxx);replace FB:=hid (FB.out.ext hxx);replace BC:=hid (BC.out.ext hxx);replace FK:=hid (FK.out.ext hxx);replace BR:=hid (BR.out.ext hxx);clear hx hxx;go_wp2_with fail;refine (Q2r _).mono ?_;rintro e w15 ⟨u10,rfl,hu,hx⟩;have hxx:Ext w14 w15:=hx;replace HXA:=hid (HXA.out.trans hxx);replace HWD:=hid (HWD.out.ext hxx);replace FH:=hid (FH.out.ext hxx);replace FA:=hid (FA.out.ext hxx);replace FB:=hid (FB.out.ext hxx);replace BC:=hid (BC.out.ext hxx);replace FK:=hid (FK.out.ext hxx);replace BR:=hid (BR.out.ext hxx);clear hx hxx;have HU:=hid hu;clear hu;go_wp2_with fail;refine (Q5w _ true true false).mono ?_;rintro e w16 ⟨p11,rfl,hp,hx⟩;have hxx:Ext w15 w16:=hx;replace HXA:=hid (HXA.out.trans hxx);replace HWD:=hid (HWD.out.ext hxx);replace FH:=hid (FH.out.ext hxx);replace FA:=hid (FA.out.ext hxx);replace FB:=hid (FB.out.ext hxx);replace BC:=hid (BC.out.ext hxx);replace FK:=hid (FK.out.ext hxx);replace BR:=hid (BR.out.ext hxx);replace HU:=hid (HU.out.ext hxx);clear hx hxx;have HP:=hid hp;clear hp;go_wp2_with fail;refine (J4d _ _ _ HU.out HP.out).mono ?_;rintro e w17 ⟨rfl,hx⟩;have hxx:Ext w16 w17:=hx;replace HXA:=hid (HXA.out.trans hxx);clear HU HP;replace HWD:=hid (HWD.out.ext hxx);replace FH:=hid (FH.out.ext hxx);replace FA:=hid (FA.out.ext hxx);replace FB:=hid (FB.out.ext hxx);replace BC:=hid (BC.out.ext hxx);replace FK:=hid (FK.out.ext hxx);replace BR:=hid (BR.out.ext hxx);clear hx hxx;go_wp2_with fail;refine (Q2r _).mono ?_;rintro e w18 ⟨u12,rfl,hu,hx⟩;have hxx:Ext w17 w18:=hx;replace HXA:=hid (HXA.out.trans hxx);replace HWD:=hid (HWD.out.ext hxx);replace FH:=hid (FH.out.ext hxx);replace FA:=hid (FA.out.ext hxx);replace FB:=hid (FB.out.ext hxx);replace BC:=hid (BC.out.ext hxx);replace FK:=hid (FK.out.ext hxx);replace BR:=hid (BR.out.ext hxx);clear hx hxx;have HU:=hid hu;clear hu;go_wp2_with fail;refine (J6b _ _ HU.out).mono ?_;rintro e w19 ⟨rfl,hx⟩;have hxx:Ext w18 w19:=hx;replace HXA:=hid (HXA.out.trans hxx);clear HU;replace HWD:=hid (HWD.out.ext hxx);replace FH:=hid (FH.out.ext hxx);replace FA:=hid (FA.out.ext hxx);replace FB:=hid (FB.out.ext hxx);replace BC:=hid (BC.out.ext hxx);replace FK:=hid (FK.out.ext hxx);replace BR:=hid (BR.out.ext hxx);clear hx hxx;go_wp2_with fail;refine (Q2r _).mono ?_;rintro e w20 ⟨u13,rfl,hu,hx⟩;have hxx:Ext w19 w20:=hx;replace HXA:=hid (HXA.out.trans hxx);replace HWD:=hid (HWD.out.ext hxx);replace FH:=hid (FH.out.ext hxx)
 replace FA:=hid (FA.out.ext hxx);replace FB:=hid (FB.out.ext hxx);replace BC:=hid (BC.out.ext hxx);replace FK:=hid (FK.out.ext hxx);replace BR:=hid (BR.out.ext hxx);clear hx hxx;have HU:=hid hu;clear hu;go_wp2_with fail;refine (J2o _ _ HU.out).mono ?_;rintro e w21 ⟨xp,rfl,hp4,hx⟩;have hxx:Ext w20 w21:=hx;replace HXA:=hid (HXA.out.trans hxx);clear HU;replace HWD:=hid (HWD.out.ext hxx);replace FH:=hid (FH.out.ext hxx);replace FA:=hid (FA.out.ext hxx);replace FB:=hid (FB.out.ext hxx);replace BC:=hid (BC.out.ext hxx);replace FK:=hid (FK.out.ext hxx);replace BR:=hid (BR.out.ext hxx);clear hx hxx;obtain ⟨Ap,cp,rfl,-,-,-⟩:=hp4.opened;have hpl:(X2l true true false).length=3:=rfl;change Q3u _ (.slice Ap 3 cp) _ at hp4;clear hpl;have FP:=hid hp4;clear hp4;go_wp2_with fail;change Calls _ _ _ (w21.alloc (.cells #[.slice Ap 3 cp] 38)) _;obtain ⟨W,hWW,k0,HXW,eW⟩:=Q1u w21 38 #[.slice Ap 3 cp];rw [hWW];clear hWW;refine (Q2r _).mono ?_;rintro e w22 ⟨u14,rfl,hu,hx⟩;have hxx:Ext w21 w22:=HXW.out.trans hx;replace HXA:=hid (HXA.out.trans hxx);replace HWD:=hid (HWD.out.ext hxx);replace FH:=hid (FH.out.ext hxx);replace FA:=hid (FA.out.ext hxx);replace FB:=hid (FB.out.ext hxx);replace BC:=hid (BC.out.ext hxx);replace FK:=hid (FK.out.ext hxx);replace BR:=hid (BR.out.ext hxx);replace FP:=hid (FP.out.ext hxx);have BP:=hid (k0.ext hx);clear hx hxx HXW eW k0;have HU:=hid hu;clear hu;go_wp2_with fail;refine (J2y _ _ HU.out).mono ?_;rintro e w23 ⟨xq,rfl,hq3,hx⟩;have hxx:Ext w22 w23:=hx;replace HXA:=hid (HXA.out.trans hxx);clear HU;replace HWD:=hid (HWD.out.ext hxx);replace FH:=hid (FH.out.ext hxx);replace FA:=hid (FA.out.ext hxx);replace FB:=hid (FB.out.ext hxx);replace BC:=hid (BC.out.ext hxx);replace FK:=hid (FK.out.ext hxx);replace BR:=hid (BR.out.ext hxx);replace FP:=hid (FP.out.ext hxx);replace BP:=hid (BP.out.ext hxx);clear hx hxx;obtain ⟨Aq,cq,rfl,-,-,-⟩:=hq3.opened;obtain ⟨nq,hnq⟩:∃ z,(Y9d Q0q 3).length=z:=⟨_,rfl⟩;rw [hnq];clear hq3 hnq;obtain ⟨Ah,ch,rfl,-,-,hh⟩:=FH.out.opened;have hh3:([[0],[0,0],[0,1]]:List (List Int)).length=3:=rfl;rw [hh3];clear hh3;obtain ⟨bh,oh,y0,rfl,-,hc0,hi0⟩:=hh 0 (by decide)
 obtain ⟨_,_,y1,he,-,hc1,hi1⟩:=hh 1 (by decide)
 cases he;obtain ⟨_,_,y2,he,-,hc2,hi2⟩:=hh 2 (by decide)
 cases he;replace hi0:Q0e _ y0 [0]:=hi0;replace hi1:Q0e _ y1 [0,0]:=hi1;replace hi2:Q0e _ y2 [0,1]:=hi2;clear FH hh;have FI0:=hid hi0;clear hi0;have FI1:=hid hi1;clear hi1;have FI2:=hid hi2;clear hi2;have x0:=Ext.box w23 (.cells #[.slice Aq nq cq] 38);simp only [Nat.add_zero] at hc0;have HC1:=hid (show At _ _ _ from hc1)
 have HC2:=hid (show At _ _ _ from hc2)
 replace hc0:=x0.cell hc0;clear hc1 hc2;go_wp2_with fail;change Calls _ _ _ ((w23.alloc (.cells #[.slice Aq nq cq] 38)).alloc (.cells #[.int .i64 0] 3)) _;obtain ⟨W,hWW,k0,k1,HXW,eW⟩:=Q2t w23 38 #[.slice Aq nq cq] 3 #[.int .i64 0];rw [hWW];clear hWW;refine (Q7m _ _ _ _ (FI0.out.ext HXW.out) (Q1t (l:=[0]) k1 rfl rfl (by decide))).mono ?_
 rintro e w24 ⟨rfl,hx⟩;have hxx:Ext w23 w24:=HXW.out.trans hx;replace HXA:=hid (HXA.out.trans hxx);clear FI0;replace HWD:=hid (HWD.out.ext hxx);replace FA:=hid (FA.out.ext hxx);replace FB:=hid (FB.out.ext hxx);replace BC:=hid (BC.out.ext hxx);replace FK:=hid (FK.out.ext hxx);replace BR:=hid (BR.out.ext hxx);replace FP:=hid (FP.out.ext hxx);replace BP:=hid (BP.out.ext hxx);replace FI1:=hid (FI1.out.ext hxx);replace FI2:=hid (FI2.out.ext hxx);replace HC1:=hid (HC1.out.ext hxx);replace HC2:=hid (HC2.out.ext hxx);clear hx hxx HXW eW k0 k1;clear hc0 x0;have hc1:w24.cell? ⟨bh,oh + 1,none⟩=some y1:=HC1.out;go_wp2_with fail;change Calls _ _ _ (w24.alloc (.cells #[.int .i64 0,.int .i64 0] 3)) _;obtain ⟨W,hWW,k0,HXW,eW⟩:=Q1u w24 3 #[.int .i64 0,.int .i64 0];rw [hWW];clear hWW;refine (Q7m _ _ _ _ (FI1.out.ext HXW.out) (Q1t (l:=[0,0]) k0 rfl rfl (by decide))).mono ?_
 rintro e w25 ⟨rfl,hx⟩;have hxx:Ext w24 w25:=HXW.out.trans hx;replace HXA:=hid (HXA.out.trans hxx);clear FI1;replace HWD:=hid (HWD.out.ext hxx);replace FA:=hid (FA.out.ext hxx);replace FB:=hid (FB.out.ext hxx);replace BC:=hid (BC.out.ext hxx);replace FK:=hid (FK.out.ext hxx);replace BR:=hid (BR.out.ext hxx);replace FP:=hid (FP.out.ext hxx);replace BP:=hid (BP.out.ext hxx);replace FI2:=hid (FI2.out.ext hxx);replace HC1:=hid (HC1.out.ext hxx);replace HC2:=hid (HC2.out.ext hxx);clear hx hxx HXW eW k0;clear hc1;have hc2:w25.cell? ⟨bh,oh + 2,none⟩=some y2:=HC2.out;go_wp2_with fail;change Calls _ _ _ (w25.alloc (.cells #[.int .i64 0,.int .i64 1] 3)) _;obtain ⟨W,hWW,k0,HXW,eW⟩:=Q1u w25 3 #[.int .i64 0,.int .i64 1];rw [hWW];clear hWW;refine (Q7m _ _ _ _ (FI2.out.ext HXW.out) (Q1t (l:=[0,1]) k0 rfl rfl (by decide))).mono ?_
 rintro e w26 ⟨rfl,hx⟩;have hxx:Ext w25 w26:=HXW.out.trans hx;replace HXA:=hid (HXA.out.trans hxx);clear FI2;replace HWD:=hid (HWD.out.ext hxx);replace FA:=hid (FA.out.ext hxx);replace FB:=hid (FB.out.ext hxx);replace BC:=hid (BC.out.ext hxx);replace FK:=hid (FK.out.ext hxx);replace BR:=hid (BR.out.ext hxx);replace FP:=hid (FP.out.ext hxx);replace BP:=hid (BP.out.ext hxx);replace HC1:=hid (HC1.out.ext hxx);replace HC2:=hid (HC2.out.ext hxx);clear hx hxx HXW eW k0;clear hc2;have d0BC:=BC.out.cell 0;simp only [Go.Tw.gA,Go.Tw.gB] at d0BC;go_wp2_with fail;change Calls _ _ _ (w26.alloc (.cells #[.bool false,.bool true] 4)) _;obtain ⟨W,hWW,k0,HXW,eW⟩:=Q1u w26 4 #[.bool false,.bool true];rw [hWW];clear hWW;refine (Z6x _ _ _ _ (FA.out.ext HXW.out) (Y5r (l:=[false,true]) k0 rfl rfl (by decide))).mono ?_
 rintro e w27 ⟨rfl,hx⟩;have hxx:Ext w26 w27:=HXW.out.trans hx;replace HXA:=hid (HXA.out.trans hxx);clear FA;replace HWD:=hid (HWD.out.ext hxx);replace FB:=hid (FB.out.ext hxx);replace BC:=hid (BC.out.ext hxx);replace FK:=hid (FK.out.ext hxx);replace BR:=hid (BR.out.ext hxx);replace FP:=hid (FP.out.ext hxx);replace BP:=hid (BP.out.ext hxx);replace HC1:=hid (HC1.out.ext hxx);replace HC2:=hid (HC2.out.ext hxx);clear hx hxx HXW eW k0;clear d0BC;have d1BC:=BC.out.cell 1;simp only [Go.Tw.gA,Go.Tw.gB,Go.Tw.gC] at d1BC;go_wp2_with fail;change Calls _ _ _ (w27.alloc (.cells #[.int .i64 20,.int .i64 10] 3)) _;obtain ⟨W,hWW,k0,HXW,eW⟩:=Q1u w27 3 #[.int .i64 20,.int .i64 10];rw [hWW];clear hWW;refine (Q7m _ _ _ _ (FB.out.ext HXW.out) (Q1t (l:=[20,10]) k0 rfl rfl (by decide))).mono ?_
 rintro e w28 ⟨rfl,hx⟩;have hxx:Ext w27 w28:=HXW.out.trans hx;replace HXA:=hid (HXA.out.trans hxx);clear FB BC;replace HWD:=hid (HWD.out.ext hxx);replace FK:=hid (FK.out.ext hxx);replace BR:=hid (BR.out.ext hxx);replace FP:=hid (FP.out.ext hxx);replace BP:=hid (BP.out.ext hxx);replace HC1:=hid (HC1.out.ext hxx);replace HC2:=hid (HC2.out.ext hxx);clear hx hxx HXW eW k0;clear d1BC;go_wp2_with fail;change Calls _ _ _ (w28.alloc (.cells #[.int .i64 0,.int .i64 2] 3)) _;obtain ⟨W,hWW,k0,HXW,eW⟩:=Q1u w28 3 #[.int .i64 0,.int .i64 2];rw [hWW];clear hWW;refine (Q7m _ _ _ _ (FK.out.ext HXW.out) (Q1t (l:=[0,2]) k0 rfl rfl (by decide))).mono ?_
 rintro e w29 ⟨rfl,hx⟩;have hxx:Ext w28 w29:=HXW.out.trans hx;replace HXA:=hid (HXA.out.trans hxx);clear FK;replace HWD:=hid (HWD.out.ext hxx);replace BR:=hid (BR.out.ext hxx);replace FP:=hid (FP.out.ext hxx);replace BP:=hid (BP.out.ext hxx);replace HC1:=hid (HC1.out.ext hxx);replace HC2:=hid (HC2.out.ext hxx);clear hx hxx HXW eW k0;have d0BR:=BR.out.cell 0;have d1BR:=BR.out.cell 1;simp only [Go.Tw.gA,Go.Tw.gB,Go.Tw.gC] at d0BR d1BR;have d0BP:=BP.out.cell 0;simp only [Go.Tw.gA,Go.Tw.gB] at d0BP;go_wp2_with fail;refine (Z2v _ _ rlB ⟨_,rfl,FP.out⟩ (by decide)).mono ?_
 rintro e w30 ⟨v1,rfl,ht,hx⟩;have hxx:Ext w29 w30:=hx;replace HXA:=hid (HXA.out.trans hxx);clear BR BP FP;replace HWD:=hid (HWD.out.ext hxx);replace HC1:=hid (HC1.out.ext hxx);replace HC2:=hid (HC2.out.ext hxx);clear hx hxx;clear d0BR d1BR d0BP;have FT1:=hid ht;clear ht;go_wp2_with fail;refine (Q5w _ true true false).mono ?_;rintro e w31 ⟨p15,rfl,hp,hx⟩;have hxx:Ext w30 w31:=hx;replace HXA:=hid (HXA.out.trans hxx);replace HWD:=hid (HWD.out.ext hxx);replace HC1:=hid (HC1.out.ext hxx);replace HC2:=hid (HC2.out.ext hxx);replace FT1:=hid (FT1.out.ext hxx);clear hx hxx;have HP:=hid hp;clear hp;go_wp2_with fail;refine (Z2v _ _ rlB HP.out (by decide)).mono ?_
 rintro e w32 ⟨v2,rfl,ht,hx⟩;have hxx:Ext w31 w32:=hx;replace HXA:=hid (HXA.out.trans hxx);clear HP;replace HWD:=hid (HWD.out.ext hxx);replace HC1:=hid (HC1.out.ext hxx);replace HC2:=hid (HC2.out.ext hxx);replace FT1:=hid (FT1.out.ext hxx);clear hx hxx;have FT2:=hid ht;clear ht;go_wp2_with fail;refine (J2m _ _ _ _ FT1.out FT2.out).mono ?_;rintro e w33 ⟨rfl,hx⟩;have hxx:Ext w32 w33:=hx;replace HXA:=hid (HXA.out.trans hxx);clear FT1 FT2;replace HWD:=hid (HWD.out.ext hxx);replace HC1:=hid (HC1.out.ext hxx);replace HC2:=hid (HC2.out.ext hxx);clear hx hxx;go_wp2_with fail;refine (Q2r _).mono ?_;rintro e w34 ⟨u16,rfl,hu,hx⟩;have hxx:Ext w33 w34:=hx;replace HXA:=hid (HXA.out.trans hxx);replace HWD:=hid (HWD.out.ext hxx);replace HC1:=hid (HC1.out.ext hxx);replace HC2:=hid (HC2.out.ext hxx);clear hx hxx;have HU:=hid hu;clear hu;go_wp2_with fail;refine (J2z _ _ HU.out).mono ?_;rintro e w35 ⟨xl,rfl,hl,hx⟩;have hxx:Ext w34 w35:=hx;replace HXA:=hid (HXA.out.trans hxx);clear HU;replace HWD:=hid (HWD.out.ext hxx);replace HC1:=hid (HC1.out.ext hxx);replace HC2:=hid (HC2.out.ext hxx);clear hx hxx;have FL:=hid hl;clear hl;go_wp2_with fail;refine (Q2r _).mono ?_;rintro e w36 ⟨u17,rfl,hu,hx⟩;have hxx:Ext w35 w36:=hx;replace HXA:=hid (HXA.out.trans hxx);replace HWD:=hid (HWD.out.ext hxx);replace HC1:=hid (HC1.out.ext hxx);replace HC2:=hid (HC2.out.ext hxx);replace FL:=hid (FL.out.ext hxx);clear hx hxx;have HU:=hid hu;clear hu;go_wp2_with fail;refine (Q5w _ true true false).mono ?_;rintro e w37 ⟨p18,rfl,hp,hx⟩;have hxx:Ext w36 w37:=hx;replace HXA:=hid (HXA.out.trans hxx);replace HWD:=hid (HWD.out.ext hxx);replace HC1:=hid (HC1.out.ext hxx);replace HC2:=hid (HC2.out.ext hxx);replace FL:=hid (FL.out.ext hxx);replace HU:=hid (HU.out.ext hxx);clear hx hxx;have HP:=hid hp;clear hp;go_wp2_with fail;refine (J0r _ _ _ HU.out HP.out).mono ?_;rintro e w38 ⟨rfl,hx⟩;have hxx:Ext w37 w38:=hx;replace HXA:=hid (HXA.out.trans hxx);clear HU HP;replace HWD:=hid (HWD.out.ext hxx);replace HC1:=hid (HC1.out.ext hxx);replace HC2:=hid (HC2.out.ext hxx);replace FL:=hid (FL.out.ext hxx);clear hx hxx;go_wp2_with fail;refine (Q2r _).mono ?_;rintro e w39 ⟨u19,rfl,hu,hx⟩;have hxx:Ext w38 w39:=hx;replace HXA:=hid (HXA.out.trans hxx);replace HWD:=hid (HWD.out.ext hxx);replace HC1:=hid (HC1.out.ext hxx);replace HC2:=hid (HC2.out.ext hxx);replace FL:=hid (FL.out.ext hxx);clear hx hxx;have HU:=hid hu;clear hu;go_wp2_with fail;refine (J0s _ _ HU.out).mono ?_;rintro e w40 ⟨xg,rfl,hg,hx⟩;have hxx:Ext w39 w40:=hx;replace HXA:=hid (HXA.out.trans hxx);clear HU;replace HWD:=hid (HWD.out.ext hxx);replace HC1:=hid (HC1.out.ext hxx);replace HC2:=hid (HC2.out.ext hxx);replace FL:=hid (FL.out.ext hxx);clear hx hxx;have FG:=hid hg;clear hg;go_wp2_with fail;change Calls _ _ _ ((((((w40.alloc (.cells #[.int .i64 0,.int .i64 0] 3)).alloc (.cells #[.int .i64 0,.int .i64 0] 3)).alloc (.cells #[.int .i64 40,.int .i64 40] 3)).alloc (.cells #[.int .i64 20,.int .i64 20] 3)).alloc (.cells #[.string ⟨#[122]⟩,.int .i64 1,.slice (some ⟨w40.heap.size + 1,0,none⟩) 2 2,.slice (some ⟨w40.heap.size + 1 + 1,0,none⟩) 2 2,.slice (some ⟨w40.heap.size + 1 + 1 + 1,0,none⟩) 2 2] 69)).alloc (.cells #[.int .i64 30,.slice (some ⟨w40.heap.size,0,none⟩) 2 2,.slice (some ⟨w40.heap.size + 1 + 1 + 1 + 1,0,none⟩) 1 1] 34)) _;have k0:=Blk.made w40 3 #[.int .i64 0,.int .i64 0];have x0:=Ext.box w40 (.cells #[.int .i64 0,.int .i64 0] 3);have es0:(w40.alloc (.cells #[.int .i64 0,.int .i64 0] 3)).heap.size=w40.heap.size + 1:=by simp
 obtain ⟨X0,hX0⟩:∃ X,w40.alloc (.cells #[.int .i64 0,.int .i64 0] 3)=X:=⟨_,rfl⟩;rw [hX0] at k0 x0 es0 ⊢;clear hX0;have k1:=Blk.made X0 3 #[.int .i64 0,.int .i64 0];have x1:=Ext.box X0 (.cells #[.int .i64 0,.int .i64 0] 3);have es1:(X0.alloc (.cells #[.int .i64 0,.int .i64 0] 3)).heap.size=X0.heap.size + 1:=by simp
 obtain ⟨X1,hX1⟩:∃ X,X0.alloc (.cells #[.int .i64 0,.int .i64 0] 3)=X:=⟨_,rfl⟩;rw [hX1] at k1 x1 es1 ⊢;clear hX1;have k2:=Blk.made X1 3 #[.int .i64 40,.int .i64 40];have x2:=Ext.box X1 (.cells #[.int .i64 40,.int .i64 40] 3);have es2:(X1.alloc (.cells #[.int .i64 40,.int .i64 40] 3)).heap.size=X1.heap.size + 1:=by simp
 obtain ⟨X2,hX2⟩:∃ X,X1.alloc (.cells #[.int .i64 40,.int .i64 40] 3)=X:=⟨_,rfl⟩;rw [hX2] at k2 x2 es2 ⊢;clear hX2;have k3:=Blk.made X2 3 #[.int .i64 20,.int .i64 20];have x3:=Ext.box X2 (.cells #[.int .i64 20,.int .i64 20] 3);have es3:(X2.alloc (.cells #[.int .i64 20,.int .i64 20] 3)).heap.size=X2.heap.size + 1:=by simp
 obtain ⟨X3,hX3⟩:∃ X,X2.alloc (.cells #[.int .i64 20,.int .i64 20] 3)=X:=⟨_,rfl⟩;rw [hX3] at k3 x3 es3 ⊢;clear hX3;have k4:=Blk.made X3 69 #[.string ⟨#[122]⟩,.int .i64 1,.slice (some ⟨w40.heap.size + 1,0,none⟩) 2 2,.slice (some ⟨w40.heap.size + 1 + 1,0,none⟩) 2 2,.slice (some ⟨w40.heap.size + 1 + 1 + 1,0,none⟩) 2 2];have x4:=Ext.box X3 (.cells #[.string ⟨#[122]⟩,.int .i64 1,.slice (some ⟨w40.heap.size + 1,0,none⟩) 2 2,.slice (some ⟨w40.heap.size + 1 + 1,0,none⟩) 2 2,.slice (some ⟨w40.heap.size + 1 + 1 + 1,0,none⟩) 2 2] 69);have es4:(X3.alloc (.cells #[.string ⟨#[122]⟩,.int .i64 1,.slice (some ⟨w40.heap.size + 1,0,none⟩) 2 2,.slice (some ⟨w40.heap.size + 1 + 1,0,none⟩) 2 2,.slice (some ⟨w40.heap.size + 1 + 1 + 1,0,none⟩) 2 2] 69)).heap.size=X3.heap.size + 1:=by simp
 obtain ⟨X4,hX4⟩:∃ X,X3.alloc (.cells #[.string ⟨#[122]⟩,.int .i64 1,.slice (some ⟨w40.heap.size + 1,0,none⟩) 2 2,.slice (some ⟨w40.heap.size + 1 + 1,0,none⟩) 2 2,.slice (some ⟨w40.heap.size + 1 + 1 + 1,0,none⟩) 2 2] 69)=X:=⟨_,rfl⟩;rw [hX4] at k4 x4 es4 ⊢;clear hX4;have k5:=Blk.made X4 34 #[.int .i64 30,.slice (some ⟨w40.heap.size,0,none⟩) 2 2,.slice (some ⟨w40.heap.size + 1 + 1 + 1 + 1,0,none⟩) 1 1];have x5:=Ext.box X4 (.cells #[.int .i64 30,.slice (some ⟨w40.heap.size,0,none⟩) 2 2,.slice (some ⟨w40.heap.size + 1 + 1 + 1 + 1,0,none⟩) 1 1] 34);have es5:(X4.alloc (.cells #[.int .i64 30,.slice (some ⟨w40.heap.size,0,none⟩) 2 2,.slice (some ⟨w40.heap.size + 1 + 1 + 1 + 1,0,none⟩) 1 1] 34)).heap.size=X4.heap.size + 1:=by simp
 obtain ⟨X5,hX5⟩:∃ X,X4.alloc (.cells #[.int .i64 30,.slice (some ⟨w40.heap.size,0,none⟩) 2 2,.slice (some ⟨w40.heap.size + 1 + 1 + 1 + 1,0,none⟩) 1 1] 34)=X:=⟨_,rfl⟩;rw [hX5] at k5 x5 es5 ⊢;clear hX5;replace k0:=((((k0.ext x1).ext x2).ext x3).ext x4).ext x5;replace k1:=(((k1.ext x2).ext x3).ext x4).ext x5;replace k2:=((k2.ext x3).ext x4).ext x5;replace k3:=(k3.ext x4).ext x5;replace k4:=k4.ext x5;have e0:X0.heap.size=w40.heap.size + 1:=by omega
 have e1:X1.heap.size=w40.heap.size + 1 + 1:=by omega
 have e2:X2.heap.size=w40.heap.size + 1 + 1 + 1:=by omega
 have e3:X3.heap.size=w40.heap.size + 1 + 1 + 1 + 1:=by omega
 have e4:X4.heap.size=w40.heap.size + 1 + 1 + 1 + 1 + 1:=by omega
 have e5:X5.heap.size=w40.heap.size + 1 + 1 + 1 + 1 + 1 + 1:=by omega
 rw [e0] at k1;rw [e1] at k2;rw [e2] at k3;rw [e3] at k4;rw [e4] at k5;have HXW:Hid (Ext w40 X5):=hid (Ext.trans (Ext.trans (Ext.trans (Ext.trans (Ext.trans (x0) x1) x2) x3) x4) x5);have eW:X5.heap.size=w40.heap.size + 1 + 1 + 1 + 1 + 1 + 1:=e5;clear x0 es0 e0 x1 es1 e1 x2 es2 e2 x3 es3 e3 x4 es4 e4 x5 es5 e5;obtain ⟨W,hWW⟩:∃ W,X5=W:=⟨_,rfl⟩;rw [hWW] at HXW eW ⊢ k0 k1 k2 k3 k4 k5;clear hWW;refine (J1e _ _ ⟨_,_,rfl,⟨(Q1t (l:=[0,0]) k0 rfl rfl (by decide)),J3r k4 (Q1t (l:=[0,0]) k1 rfl rfl (by decide)) (Q1t (l:=[40,40]) k2 rfl rfl (by decide)) (Q1t (l:=[20,20]) k3 rfl rfl (by decide))⟩⟩).mono ?_
 rintro e w41 ⟨rfl,hx⟩;have hxx:Ext w40 w41:=HXW.out.trans hx;replace HXA:=hid (HXA.out.trans hxx);replace HWD:=hid (HWD.out.ext hxx);replace HC1:=hid (HC1.out.ext hxx);replace HC2:=hid (HC2.out.ext hxx);replace FL:=hid (FL.out.ext hxx);replace FG:=hid (FG.out.ext hxx);clear hx hxx HXW eW k0 k1 k2 k3 k4 k5;go_wp2_with fail;refine (Q5w _ false true false).mono ?_;rintro e w42 ⟨p20,rfl,hp,hx⟩;have hxx:Ext w41 w42:=hx;replace HXA:=hid (HXA.out.trans hxx);replace HWD:=hid (HWD.out.ext hxx);replace HC1:=hid (HC1.out.ext hxx);replace HC2:=hid (HC2.out.ext hxx);replace FL:=hid (FL.out.ext hxx);replace FG:=hid (FG.out.ext hxx);clear hx hxx;have HP:=hid hp;clear hp;go_wp2_with fail;refine (J3z _ _ HP.out HWD.out).mono ?_;rintro e w43 ⟨rfl,hx⟩;have hxx:Ext w42 w43:=hx;replace HXA:=hid (HXA.out.trans hxx);clear HP;replace HWD:=hid (HWD.out.ext hxx);replace HC1:=hid (HC1.out.ext hxx);replace HC2:=hid (HC2.out.ext hxx);replace FL:=hid (FL.out.ext hxx);replace FG:=hid (FG.out.ext hxx);clear hx hxx;go_wp2_with fail;change Calls _ _ _ (w43.alloc (.cells #[.bool false,.bool true] 4)) _;obtain ⟨W,hWW,k0,HXW,eW⟩:=Q1u w43 4 #[.bool false,.bool true];rw [hWW];clear hWW;refine (Z6x _ _ _ _ (FL.out.ext HXW.out) (Y5r (l:=[false,true]) k0 rfl rfl (by decide))).mono ?_
 rintro e w44 ⟨rfl,hx⟩;have hxx:Ext w43 w44:=HXW.out.trans hx;replace HXA:=hid (HXA.out.trans hxx);clear FL;replace HWD:=hid (HWD.out.ext hxx);replace HC1:=hid (HC1.out.ext hxx);replace HC2:=hid (HC2.out.ext hxx);replace FG:=hid (FG.out.ext hxx);clear hx hxx HXW eW k0;go_wp2_with fail;refine (Y9s _ _ _ FG.out (by decide)).mono ?_
 rintro e w45 ⟨v3,rfl,hg,hx⟩;have hxx:Ext w44 w45:=hx;replace HXA:=hid (HXA.out.trans hxx);clear FG;replace HWD:=hid (HWD.out.ext hxx);replace HC1:=hid (HC1.out.ext hxx);replace HC2:=hid (HC2.out.ext hxx);clear hx hxx;have FG3:=hid hg;clear hg;go_wp2_with fail;change Calls _ _ _ (((w45.alloc (.cells #[.int .i64 0] 3)).alloc (.cells #[.int .i64 1,.int .i64 2] 3)).alloc (.cells #[.slice (some ⟨w45.heap.size,0,none⟩) 1 1,.int .i64 2,.slice (some ⟨w45.heap.size + 1,0,none⟩) 2 2,.int .i64 2] 153)) _;obtain ⟨W,hWW,k0,k1,k2,HXW,eW⟩:=X1i w45 3 #[.int .i64 0] 3 #[.int .i64 1,.int .i64 2] 153 #[.slice (some ⟨w45.heap.size,0,none⟩) 1 1,.int .i64 2,.slice (some ⟨w45.heap.size + 1,0,none⟩) 2 2,.int .i64 2];rw [hWW];clear hWW;refine (J3k _ _ _ _ (FG3.out.ext HXW.out) (J1b k2 (Q1t (l:=[0]) k0 rfl rfl (by decide)) (Q1t (l:=[1,2]) k1 rfl rfl (by decide)))).mono ?_
 rintro e w46 ⟨rfl,hx⟩;have hxx:Ext w45 w46:=HXW.out.trans hx;replace HXA:=hid (HXA.out.trans hxx);clear FG3;replace HWD:=hid (HWD.out.ext hxx);replace HC1:=hid (HC1.out.ext hxx);replace HC2:=hid (HC2.out.ext hxx);clear hx hxx HXW eW k0 k1 k2;go_wp2;go_ret;exact ⟨congrArg Ending.returned (congrArg Value.bool J3w),HXA.out⟩
end Go.Proofs
namespace Go.Proofs
open Go.RowKit Go.Tw Go.Flow
theorem Q7s (w:World) (v:Value) (l:List Int) (hv:Q0e w v l) (hle:l.length <= 4096) :
    Calls Tryz.prog 63 #[v] w fun e w'=>∃ u,e=.returned u /\ Q0m w' w.heap.size 3 (.int .i64) u l /\ Ext w w':=by
 obtain ⟨i0,hi,hz0,hz1,hz2⟩:=info_parts Tryz.info3;obtain ⟨A,cap,rfl,hl,hcap,hc⟩:=hv.opened;have hx:=Ext.box w (.cells #[] 3);have hown:Q0m (w.alloc (.cells #[] 3)) w.heap.size 3 (Value.int .i64) (.slice (some ⟨w.heap.size,0,none⟩) 0 0) []:=World.ownsRow_made w #[] 0 (Nat.le_refl _) (by unfold maxLen; omega) rfl
 cases A with
 | none =>
   have hz:l=[]:=by
    cases l with
    | nil=>rfl
    | cons x l=>obtain ⟨b,off,he,_⟩:=hc 0 (by simp); cases he
   subst hz;clear hv hc;go_enter Tryz.func63,Tryz.ntmps63;go_wp2;go_ret;exact ⟨_,rfl,hown,hx⟩
 | some a =>
   have HSRC:Hid (∀ j u,(l.map (Value.int .i64))[j]?=some u -> (w.alloc (.cells #[] 3)).cell? (a.add j)=some u):=by
    exact (by
     intro j u hj;rw [List.getElem?_map] at hj;obtain ⟨y,hy,rfl⟩:=Option.map_eq_some_iff.1 hj;obtain ⟨hjl,rfl⟩:=List.getElem?_eq_some_iff.1 hy;obtain ⟨b,off,he,hcell⟩:=hc j hjl;cases he;rw [addr_add,hx.cell hcell,Q4n hjl]:∀ j u,(l.map (Value.int .i64))[j]?=some u -> (w.alloc (.cells #[] 3)).cell? (a.add j)=some u)
   have HONE:Hid (∀ u ∈ l.map (Value.int .i64),u.oneCell'=true):=by
    exact (by intro u hu; obtain ⟨y,_,rfl⟩:=List.mem_map.1 hu; rfl:∀ u ∈ l.map (Value.int .i64),u.oneCell'=true)
   have HL2:Hid ((l.map (Value.int .i64)).length=l.length * 1):=hid (by simp)
   clear hv hc;go_enter Tryz.func63,Tryz.ntmps63;go_wp2_with (at_builtin; refine wpList_append_own _ rfl _ _ 22 rfl (w.heap.size) 3 i0 (.int .i64 0) 1 8 Tryz.underlying22 hi hz0 hz1 hz2 rfl (by decide) _ _ _ rfl hown a l.length cap (l.map (Value.int .i64)) rfl HL2.out HSRC.out HONE.out ?_ ?_ ?_ ?_; (focus (unfold maxLen; simp; omega)); (focus (simp; omega)); (focus (simp)); intro v' w4 hown' hgrow _; refine halted ?_)
   have hx4:Ext w w4:=Below.trans hx (below_grown hown hgrow (Nat.le_refl _) hx.size);have hown2:Q0m w4 w.heap.size 3 (.int .i64) v' l:=by
    unfold Q0m;rw [show l.length=0 + l.length from (Nat.zero_add _).symm]
    exact hown'
   clear hown' hgrow hown hx;unfold Q1j;go_wp2;go_ret;exact ⟨_,rfl,hown2,hx4⟩
end Go.Proofs
