/- The region theorems with the frame under a name at every operation. The basin of chapter 4 as plain functions, and that a step keeps the order of volumes. No program in sight. Contracts of the basin: floor, fromSea, barrier, over, the flows of the kinds, the node of a link. Contracts of small functions of the program: when, first, within, checkHeight, checkDelay, checkClass, checkNeed. Contract of isName: a name by its bytes. Contracts of the reference: IsName, CheckName, HasWord, checkGate. What the functions of chapter 5 come to, in plain lists and numbers: no program is in sight here. Plain law: any list that ascends strictly and has just the histories of the members is the reference's list of histories. Plain law: the program's plans are policies, and no policy does better than all of them. What a Q9v without an error is like. Contract of the reference: checkAll. Contracts of the reference: SameInts, SameBools. Contracts of the reference: before, count, dry. Contract of the reference: Weight. Guarded operations of a region: the guard looked up in the frame under a name. Contract of the reference: checkMember. Contract of the reference: CheckSeason. Contracts of the program: mapped errors of numbers; ContainsFunc over members (CheckSeason's closure). Plain law: each plan is what the policy of its closed histories comes to, and no policy does better than all plans. Plain law: the same of all runners, class by class and tide by tide. Plain law: what runners come to is what the policy keeps, closes and delays. Plain law: the greatest weight and the best cost over the plans are those over all policies by their codes. Plain law: what PolicyBest says of the greatest weight, the best cost and the groups. Plain law: prefixes of closings; Z9g members; the first closings of a member alone. Contract of the reference: Follow. Contracts: a member's step, its Q8n, keeps. Worlds that differ from an earlier one in one block alone; slices of structs appended to in such a world. -/
import Derived.Test.YtodinjclfmiohaaGreatKc01
import Derived.Shelf.Abstract
set_option maxRecDepth 1000000
set_option maxHeartbeats 64000000
set_option linter.unusedVariables false
set_option linter.unusedSimpArgs false
set_option linter.constructorNameAsVariable false
namespace Go.Flow
open Go.RowKit Go.Tw
def Z1k (P:Program) (ops:Array Oper) (pre:Nat -> List Nat) (tail:List Nat) (w0:World) (D:Nat -> (Nat -> Value) -> World -> Prop):List ((Nat -> Value) -> World -> World -> Prop) -> ((Nat -> Value) -> World -> World -> Prop) -> List Oper -> List Kind -> List Nat -> ((Nat -> Value) -> Act) -> Prop
 | El,T,o :: l,k :: kl,j :: jl,b =>
   match k,El with
   | .last,E :: El=>(∀ v w1,Ext w0 w1 -> Facts pre D v w1 ((pre j).filter fun i=>!tail.contains i) (∀ w,T v w1 w -> ∀ bb,bb = b v -> Guarded ops o bb (Due P pre D E .last o j bb v w1 w) (Pass pre D E .last j v w1 w))) /\
      Z1k P ops pre tail w0 D El (fun v w1 w=>E (mask pre j v) w1 w) l kl jl (fun v=>(b v).put o.dst (v j))
   | .last,[]=>False
   | k,El=>(∀ v w1,Ext w0 w1 -> Facts pre D v w1 (pre j) (∀ bb,bb = b v -> Guarded ops o bb (Due P pre D (fun _ _ _=>False) k o j bb v w1 w1) (Pass pre D (fun _ _ _=>False) k j v w1 w1))) /\ Z1k P ops pre tail w0 D El T l kl jl (fun v=>(b v).put o.dst (v j))
 | _,_,_,_,_,_=>True
theorem X4y {pre:Nat -> List Nat} {D:Nat -> (Nat -> Value) -> World -> Prop} {v:Nat -> Value} {w:World} {G G':Prop} (h:G -> G'):∀ {l:List Nat},Facts pre D v w l G -> Facts pre D v w l G'
 | [],hg=>h hg
 | _ :: _,hg=>fun hd=>X4y h (hg hd)
theorem X1q {P:Program} {ops:Array Oper} {pre:Nat -> List Nat} {tail:List Nat} {w0:World} {D:Nat -> (Nat -> Value) -> World -> Prop}:∀ (l:List Oper) (kl:List Kind) (jl:List Nat) (El:List ((Nat -> Value) -> World -> World -> Prop)) (T:(Nat -> Value) -> World -> World -> Prop) (b:(Nat -> Value) -> Act),
    Z1k P ops pre tail w0 D El T l kl jl b -> X7k P ops pre tail w0 D El T l kl jl b
 | [],_,_,_,_,_,_=>by simp [X7k]
 | _ :: _,[],_,_,_,_,_=>by simp [X7k]
 | _ :: _,_ :: _,[],_,_,_,_=>by simp [X7k]
 | o :: l,.last :: kl,j :: jl,E :: El,T,b,h=>⟨h.1,X1q l kl jl El _ _ h.2⟩
 | o :: l,.last :: kl,j :: jl,[],T,b,h=>h
 | o :: l,.plain :: kl,j :: jl,El,T,b,h=>⟨fun v w1 hx=>X4y (fun hg=>hg _ rfl) (h.1 v w1 hx),X1q l kl jl El _ _ h.2⟩
 | o :: l,.world :: kl,j :: jl,El,T,b,h=>⟨fun v w1 hx=>X4y (fun hg=>hg _ rfl) (h.1 v w1 hx),X1q l kl jl El _ _ h.2⟩
section
variable {P:Program} {ops:List Oper} {id:Nat} {Q:Exit -> Act -> World -> Prop} {a0:Act} {w:World}
theorem Q4c (kl:List Kind) (jl:List Nat) (pl:List (List Nat)) (tail:List Nat) (Dl:List Spec) (El:List ((Nat -> Value) -> World -> World -> Prop))
    (hm:P.follows .mixedOrders = true) (hjl:jl = List.range' 0 ops.length) (hok:okL ops pl kl tail El.length = true)
    (hvc:Z1k P ops.toArray (lookup pl []) tail w.drew (fun k=>(lookup Dl .none k).D) El (fun _ w1 w=>w = w1) ops kl jl (fun _=>a0))
    (hpost:∀ v w1,Ext w.drew w1 -> All (lookup pl []) (fun k=>(lookup Dl .none k).D) v w1 tail jl (∀ w',endOf (lookup pl []) v w1 w' tail El -> Q .normal (acts v ops jl a0) w')) :
    (Code.region id ops.toArray true).wp P Q a0 w:=region kl jl pl tail Dl El hm hjl hok (X1q _ _ _ _ _ _ hvc) hpost
theorem Q1q (kl:List Kind) (jl:List Nat) (pl:List (List Nat)) (Dl:List Spec)
    (hm:P.follows .mixedOrders = true) (hjl:jl = List.range' 0 ops.length) (hok:okL ops pl kl [] 0 = true)
    (hvc:Z1k P ops.toArray (lookup pl []) [] w.drew (fun k=>(lookup Dl .none k).D) [] (fun _ w1 w=>w = w1) ops kl jl (fun _=>a0))
    (hpost:∀ v w1,Ext w.drew w1 -> All (lookup pl []) (fun k=>(lookup Dl .none k).D) v w1 [] jl (Q .normal (acts v ops jl a0) w1)) :
    (Code.region id ops.toArray true).wp P Q a0 w:=J6k kl jl pl Dl hm hjl hok (X1q _ _ _ _ _ _ hvc) hpost
theorem J0f {l n:Nat} (kl:List Kind) (jl:List Nat) (pl:List (List Nat)) (Dl:List Spec)
    (hm:P.follows .mixedOrders = true) (hnd:Y5v ops = true) (hjl:jl = List.range' 0 ops.length) (hok:okL ops pl kl [] 0 = true)
    (hvc:Z1k P ops.toArray (lookup pl []) [] w.drew (fun k=>(lookup Dl .none k).D) [] (fun _ w1 w=>w = w1) ops kl jl (fun _=>a0))
    (hpost:∀ v w1,Ext w.drew w1 -> All (lookup pl []) (fun k=>(lookup Dl .none k).D) v w1 [] jl (Q .normal (acts v ops jl a0) w1)) :
    (Code.region id ops.toArray true).wpIn (rnd l) n P Q a0 w:=J2t kl jl pl Dl hm hnd hjl hok (X1q _ _ _ _ _ _ hvc) hpost
end
end Go.Flow
namespace Go.Ba
inductive Kd | barrier | leak | outfall | pump | weir
structure Lk where
 kind:Kd
 src:Int
 dst:Int
 lev:Int
 rate:Int
def Lk.node (l:Lk):Int:=if l.src = -1 then l.dst else l.src
def Lk.flow (l:Lk) (vol area tide:Int) (opn:Bool):Int :=
 match l.kind with
 | .barrier=>if opn then max (-vol) ((area * tide - vol) / l.rate) else 0
 | .leak=>max 0 ((area * tide - vol) / l.rate)
 | .outfall=>max 0 ((vol - area * max tide l.lev) / l.rate)
 | .pump=>max 0 (min l.rate (vol - area * l.lev))
 | .weir=>max 0 ((vol - area * l.lev) / l.rate)
abbrev Vol:=Nat -> Int
def J6j (v:Vol) (i n:Int):Vol:=fun k=>if (k:Int) = i then v k + n else v k
def vat (v:Vol) (i:Int):Int:=v i.toNat
def Lk.mid (l:Lk) (area:Vol) (tide:Int) (opn:Bool) (v:Vol):Vol:=J6j v l.src (-(l.flow (vat v l.node) (vat area l.node) tide opn))
def Lk.step (l:Lk) (area:Vol) (tide:Int) (opn:Bool) (v:Vol):Vol:=J6j (l.mid area tide opn v) l.dst (l.flow (vat v l.node) (vat area l.node) tide opn)
structure Lk.Fits (l:Lk) (n:Nat):Prop where
 rate:1 <= l.rate
 at0:0 <= l.lev
 ends:match l.kind with
  | .barrier | .leak=>l.src = -1 /\ 0 <= l.dst /\ l.dst < n
  | .outfall=>l.dst = -1 /\ 0 <= l.src /\ l.src < n
  | .pump | .weir=>l.src ≠ l.dst /\ 0 <= l.src /\ l.src < n /\ 0 <= l.dst /\ l.dst < n
def leV (v w:Vol):Prop:=∀ k,v k <= w k
theorem leV.refl (v:Vol):leV v v:=fun _=>Int.le_refl _
theorem Z9x {v w:Vol} {i n m:Int} (h:leV v w) (hn:∀ k:Nat,(k:Int) = i -> v k + n <= w k + m):leV (J6j v i n) (J6j w i m):=by
 intro k;unfold J6j
 split
 . rename_i hk; exact hn k hk
 . exact h k
theorem Y2g {x d r:Int} (hr:1 <= r) (hd:0 <= d):(x + d) / r <= x / r + d:=by
 have h1:x + d <= x + d * r:=by
  have:d * 1 <= d * r:=Int.mul_le_mul_of_nonneg_left hr hd;omega
 have h2:(x + d) / r <= (x + d * r) / r:=Int.ediv_le_ediv (by omega) h1
 rw [Int.add_mul_ediv_right _ _ (by omega)] at h2
 exact h2
theorem J1i {x y r:Int} (hr:1 <= r) (h:x <= y):x / r <= y / r:=Int.ediv_le_ediv (by omega) h
theorem Z4i {c c' v v' r:Int} (hr:1 <= r) (hc:c <= c') (hv:v <= v'):v + (c - v) / r <= v' + (c' - v') / r:=by
 have h1:(c - v') / r <= (c' - v') / r:=J1i hr (by omega)
 have h2:=Y2g (x:=c - v') (d:=v' - v) hr (by omega)
 rw [show c - v' + (v' - v) = c - v by omega] at h2
 omega
theorem Y7x {a a' v v' r:Int} (hr:1 <= r) (ha:a <= a') (hv:v <= v'):(v' - a') / r <= (v - a) / r + (v' - v):=by
 have h1:(v' - a') / r <= (v' - a) / r:=J1i hr (by omega)
 have h2:=Y2g (x:=v - a) (d:=v' - v) hr (by omega)
 rw [show v - a + (v' - v) = v' - a by omega] at h2
 omega
theorem J2y {l:Lk} (h:0 <= l.src):l.node = l.src:=by unfold Lk.node; rw [if_neg (by omega)]
theorem Z4n {l:Lk} (h:l.src = -1):l.node = l.dst:=by unfold Lk.node; rw [if_pos h]
theorem J0c (v:Vol) (k:Nat):vat v (k:Int) = v k:=by unfold vat; rw [Int.toNat_natCast]
theorem Lk.mono {l:Lk} {n:Nat} (hf:l.Fits n) {area:Vol} (ha:∀ k,0 <= area k) {t t':Int} (ht:t <= t') (opn:Bool) {v v':Vol} (hv:leV v v') :
    leV (l.mid area t opn v) (l.mid area t' opn v') /\ leV (l.step area t opn v) (l.step area t' opn v'):=by
 obtain ⟨hr,h0,he⟩:=hf;have hna:0 <= vat area l.node:=ha _;have hvn:vat v l.node <= vat v' l.node:=hv _;have hct:vat area l.node * t <= vat area l.node * t':=Int.mul_le_mul_of_nonneg_left ht hna;have hmx:vat area l.node * max t l.lev <= vat area l.node * max t' l.lev:=Int.mul_le_mul_of_nonneg_left (by omega) hna
 have sd:∀ k:Nat,(k:Int) = l.src -> v k = vat v l.src /\ v' k = vat v' l.src:=fun k hk=>by rw [<- hk,J0c,J0c]; exact ⟨rfl,rfl⟩
 have dd:∀ (u:Vol) (k:Nat),(k:Int) = l.dst -> u k = vat u l.dst:=fun u k hk=>by rw [<- hk,J0c]
 have key:leV (l.mid area t opn v) (l.mid area t' opn v'):=by
  refine Z9x hv fun k hk=>?_;obtain ⟨e1,e2⟩:=sd k hk;rw [e1,e2];have hk0:0 <= l.src:=by omega
  have hn:=J2y hk0;rw [hn] at hvn hct hmx ⊢;unfold Lk.flow;cases hkd:l.kind <;> rw [hkd] at he <;> dsimp only at he ⊢
  . omega
  . omega
  . have h1:=Y7x hr hmx hvn
    omega
  . omega
  . have h1:=Y7x (a:=vat area l.src * l.lev) hr (Int.le_refl _) hvn
    omega
 refine ⟨key,?_⟩;refine Z9x key fun k hk=>?_;have hmk:=key k;have hd0:0 <= l.dst:=by omega
 unfold Lk.flow;cases hkd:l.kind <;> rw [hkd] at he <;> dsimp only at he ⊢
 . have hn:=Z4n he.1
   have e:∀ (u:Vol) (tt:Int),l.mid area tt opn u k = vat u l.node:=fun u tt=>by
    unfold Lk.mid J6j; rw [if_neg (by omega),hn]; exact dd u k hk
   rw [e,e];have h1:=Z4i hr hct hvn;cases opn
   . simp; exact hvn
   . simp only [if_true]; omega
 . have hn:=Z4n he.1
   have e:∀ (u:Vol) (tt:Int),l.mid area tt opn u k = vat u l.node:=fun u tt=>by
    unfold Lk.mid J6j; rw [if_neg (by omega),hn]; exact dd u k hk
   rw [e,e];have h1:=Z4i hr hct hvn;omega
 . omega
 . omega
 . have h1:(vat v l.node - vat area l.node * l.lev) / l.rate <= (vat v' l.node - vat area l.node * l.lev) / l.rate:=J1i hr (by omega)
   omega
end Go.Ba
namespace Go.Proofs
open Go.RowKit Go.Tw Go.Flow
attribute [local go_sem] Oper.semAt_some
theorem Q2r {n:Int} (h1:-9223372036854775808 <= n) (h2:n <= 9223372036854775807):IntKind.i64.wrap n = n:=by rw [IntKind.wrap_i64]; omega
theorem J3k (a:Int) {b:Int} (hb:1 <= b):(a < a.tdiv b * b /\ a.tdiv b - 1 = a / b) ∨ (¬ a < a.tdiv b * b /\ a.tdiv b = a / b):=by
 have h1:=Int.tdiv_eq_ediv (a:=a) (b:=b);have h2:=Int.mul_ediv_add_emod a b;have h3:=Int.emod_nonneg a (b:=b) (by omega)
 have h4:=Int.emod_lt_of_pos a (b:=b) (by omega)
 have hs:b.sign = 1:=Int.sign_eq_one_of_pos (by omega)
 rw [hs] at h1
 split at h1
 . right
   rw [Int.add_zero] at h1;refine ⟨?_,h1⟩;rw [h1,Int.mul_comm];omega
 . left
   refine ⟨?_,by omega⟩
   rw [h1,Int.add_mul,Int.one_mul,Int.mul_comm (a / b) b];omega
theorem J8z {a b:Int} (hb:1 <= b) {k:Int} (h:-k <= a /\ a <= k):-k <= a / b /\ a / b <= k:=by
 have hk:0 <= k:=by omega
 have h1:(-k) / b <= a / b:=Int.ediv_le_ediv (by omega) h.1
 have h2:a / b <= k / b:=Int.ediv_le_ediv (by omega) h.2
 have h3:k / b <= k:=Int.ediv_le_self _ hk;have h4:-k <= (-k) / b:=by
  rw [Int.le_ediv_iff_mul_le (by omega)]
  have:k * 1 <= k * b:=Int.mul_le_mul_of_nonneg_left hb hk;rw [Int.neg_mul];omega
 omega
theorem Z0r (w:World) (a b:Int) (ha:-1152921504606846976 <= a /\ a <= 1152921504606846976) (hb:1 <= b /\ b <= 1152921504606846976) :
    Calls Tryz.prog 224 #[.int .i64 a,.int .i64 b] w fun e w'=>e = .returned (.int .i64 (a / b)) /\ w = w':=by
 have hd:=J8z hb.1 ha;have h2:=Int.mul_ediv_add_emod a b;have h3:=Int.emod_nonneg a (b:=b) (by omega)
 have h4:=Int.emod_lt_of_pos a (b:=b) (by omega)
 have hb0:¬ (b:Int) = 0:=by omega
 have hne:(b == 0) = false:=by simp; omega
 rcases J3k a hb.1 with ⟨h5,h6⟩ | ⟨h5,h6⟩
 . have HE:=Lib.hid h6
   have hq:a.tdiv b * b = b * (a / b) + b:=by rw [show a.tdiv b = a / b + 1 by omega,Int.add_mul,Int.one_mul,Int.mul_comm]
   have w1:IntKind.i64.wrap (a.tdiv b) = a.tdiv b:=Q2r (by omega) (by omega)
   have w2:IntKind.i64.wrap (a.tdiv b * b) = a.tdiv b * b:=Q2r (by omega) (by omega)
   have w3:IntKind.i64.wrap (a.tdiv b - 1) = a.tdiv b - 1:=Q2r (by omega) (by omega)
   have w4:IntKind.i64.wrap (a / b) = a / b:=Q2r (by omega) (by omega)
   clear h2 h3 h4 hq hd h6;go_enter Tryz.func224,Tryz.ntmps224;go_wp2;go_ret;exact ⟨Q1c HE.out,rfl⟩
 . have HE:=Lib.hid h6
   have hq:a.tdiv b * b = b * (a / b):=by rw [h6,Int.mul_comm]
   have w1:IntKind.i64.wrap (a.tdiv b) = a.tdiv b:=Q2r (by omega) (by omega)
   have w2:IntKind.i64.wrap (a.tdiv b * b) = a.tdiv b * b:=Q2r (by omega) (by omega)
   clear h2 h3 h4 hq hd h6;go_enter Tryz.func224,Tryz.ntmps224;go_wp2;go_ret;exact ⟨Q1c HE.out,rfl⟩
abbrev plC (kd:ByteArray) (f t a r v ar td:Int) (o:Bool):Array Value:=#[.string kd,.int .i64 f,.int .i64 t,.int .i64 a,.int .i64 r,.int .i64 v,.int .i64 ar,.int .i64 td,.bool o]
abbrev plV (kd:ByteArray) (f t a r v ar td:Int) (o:Bool):Value:=.agg (plC kd f t a r v ar td o)
structure PlB (a r v ar td:Int):Prop where
 a:0 <= a /\ a <= 1024
 r:1 <= r /\ r <= 1000
 v:0 <= v /\ v <= 1000000000000000
 ar:0 <= ar /\ ar <= 1000
 td:-2048 <= td /\ td <= 2048
theorem Z2b {x y:Int} {b c:Int} (hx:0 <= x /\ x <= b) (hy:-c <= y /\ y <= c):-(b * c) <= x * y /\ x * y <= b * c:=by
 have hb:0 <= b:=by omega
 have hc:0 <= c:=by omega
 have h1:x * y <= x * c:=Int.mul_le_mul_of_nonneg_left hy.2 hx.1;have h2:x * c <= b * c:=Int.mul_le_mul_of_nonneg_right hx.2 hc;have h3:x * (-c) <= x * y:=Int.mul_le_mul_of_nonneg_left hy.1 hx.1;rw [Int.mul_neg] at h3;omega
theorem Y0a (w:World) (kd:ByteArray) (f t a r v ar td:Int) (o:Bool) (hb:PlB a r v ar td) :
    Calls Tryz.prog 202 #[plV kd f t a r v ar td o] w fun e w'=>e = .returned (.int .i64 ((ar * td - v) / r)) /\ Ext w w':=by
 have hbox:=Ext.box w (.cells (plC kd f t a r v ar td o) 305);have K0:=Blk.made w 305 (plC kd f t a r v ar td o);have hm:=Z2b hb.ar hb.td;have h1:=hb.v;have h2:=hb.r;have w1:IntKind.i64.wrap (ar * td) = ar * td:=Q2r (by omega) (by omega)
 have w2:IntKind.i64.wrap (ar * td - v) = ar * td - v:=Q2r (by omega) (by omega)
 have HF:=Lib.hid (fun W:World=>Z0r W (ar * td - v) r (by omega) (by omega))
 have c0:=(K0).cell 0;have c1:=(K0).cell 1;have c2:=(K0).cell 2;have c3:=(K0).cell 3;have c4:=(K0).cell 4;have c5:=(K0).cell 5;have c6:=(K0).cell 6;have c7:=(K0).cell 7;have c8:=(K0).cell 8;simp only [Go.Tw.gA,Go.Tw.gB,Go.Tw.gC] at c0 c1 c2 c3 c4 c5 c6 c7 c8;clear hb hm h1 h2 K0;go_enter Tryz.func202,Tryz.ntmps202;go_wp2_with fail;refine (HF.out _).mono ?_;rintro e w2 ⟨rfl,hw⟩;subst hw;go_wp2;go_ret;exact ⟨rfl,hbox⟩
end Go.Proofs
namespace Go.Proofs
open Go.RowKit Go.Tw
def Q1f (b:Bool) (e:Int):Int:=if b then e else 0
theorem X3o (w:World) (b:Bool) (x:Int) :
    Calls Tryz.prog 90 #[.bool b,.int .i64 x] w fun e w'=>e = .returned (.int .i64 (Q1f b x)) /\ w = w':=by
 cases b <;>
 . go_enter Tryz.func90,Tryz.ntmps90
   go_wp2;go_ret;exact ⟨rfl,rfl⟩
theorem first_any (w:World) (v:Value) (l:List Int) (hv:Q0e w v l) :
    Calls Tryz.prog 45 #[v] w fun e w'=>e = .returned (.int .i64 (Q0k l)) /\ w = w':=by
 obtain ⟨A,cap,rfl,hl,hcap,hc⟩:=hv.opened;clear hv;go_enter Tryz.func45,Tryz.ntmps45;go_wp2
 go_loop [7] (fun i=>∃ k:Nat,k <= l.length /\ i = .int .i64 k /\ Q0k (l.drop k) = Q0k l) (fun i=>l.length - (intOf i).toNat)
 case atStart=>exact ⟨0,Nat.zero_le _,rfl,rfl⟩
 case round =>
  obtain ⟨k,hk,rfl,hr⟩:=hrel;have HR:=Lib.hid hr; clear hr
  by_cases hlt:k < l.length
  . obtain ⟨b,off,rfl,hcell⟩:=hc k hlt
    clear hc
    by_cases hx:ix l k = 0
    . have HX:=Lib.hid hx
      have hx1:(ix l k != 0) = false:=by simp [hx]
      clear hx;go_wp2;go_round
      case rel=>exact ⟨k + 1,by omega,by go_num,by rw [<- HR.out,Q3q hlt,Q0k,if_pos HX.out]⟩
      case measure=>simp [intOf]; omega
    . have hx1:(ix l k != 0) = true:=by simp [hx]
      have HX:=Lib.hid hx; clear hx;go_wp2;go_ret;exact ⟨Q1c (by rw [<- HR.out,Q3q hlt,Q0k,if_neg HX.out]),rfl⟩
  . clear hc
    go_wp2;go_ret;exact ⟨Q1c (by rw [<- HR.out,List.drop_eq_nil_of_le (by omega)]; rfl),rfl⟩
theorem Q7x (w:World) (x a b:Int) :
    Calls Tryz.prog 106 #[.int .i64 x,.int .i64 a,.int .i64 b] w fun e w'=>e = .returned (.int .i64 (Q0g x a b)) /\ w = w':=by
 unfold Q0g
 by_cases h1:x < a
 . rw [if_pos (.inl h1)]
   go_enter Tryz.func106,Tryz.ntmps106;go_wp2;go_ret;exact ⟨rfl,rfl⟩
 . by_cases h2:b < x
   . rw [if_pos (.inr h2)]
     go_enter Tryz.func106,Tryz.ntmps106;go_wp2;go_ret;exact ⟨rfl,rfl⟩
   . rw [if_neg (by omega)]
     go_enter Tryz.func106,Tryz.ntmps106;go_wp2;go_ret;exact ⟨rfl,rfl⟩
theorem Q9r (w:World) (x:Int) :
    Calls Tryz.prog 100 #[.int .i64 x] w fun e w'=>e = .returned (.int .i64 (Q0g x 0 1024)) /\ w = w':=by
 go_enter Tryz.func100,Tryz.ntmps100;go_wp2_with (go_at_call 106; refine (Q7x _ x 0 1024).mono ?_; rintro e w' ⟨rfl,rfl⟩);go_ret;exact ⟨rfl,rfl⟩
theorem Y1z (w:World) (x:Int) :
    Calls Tryz.prog 102 #[.int .i64 x] w fun e w'=>e = .returned (.int .i64 (Q0g x 0 1000)) /\ w = w':=by
 go_enter Tryz.func102,Tryz.ntmps102;go_wp2_with (go_at_call 106; refine (Q7x _ x 0 1000).mono ?_; rintro e w' ⟨rfl,rfl⟩);go_ret;exact ⟨rfl,rfl⟩
theorem Y1i (w:World) (x:Int) :
    Calls Tryz.prog 107 #[.int .i64 x] w fun e w'=>e = .returned (.int .i64 (Q0g x 0 9)) /\ w = w':=by
 go_enter Tryz.func107,Tryz.ntmps107;go_wp2_with (go_at_call 106; refine (Q7x _ x 0 9).mono ?_; rintro e w' ⟨rfl,rfl⟩);go_ret;exact ⟨rfl,rfl⟩
theorem X4l (w:World) (x:Int) :
    Calls Tryz.prog 56 #[.int .i64 x] w fun e w'=>e = .returned (.int .i64 (Q0g x 0 8000)) /\ w = w':=by
 go_enter Tryz.func56,Tryz.ntmps56;go_wp2_with (go_at_call 106; refine (Q7x _ x 0 8000).mono ?_; rintro e w' ⟨rfl,rfl⟩);go_ret;exact ⟨rfl,rfl⟩
end Go.Proofs
namespace Go.Proofs
open Go.RowKit Go.Tw
def Q1h (first:Bool):List UInt8 -> Bool
 | []=>true
 | c :: l=>(Q1o c || (!first && Q3u c)) && Q1h false l
theorem X6g:∀ l:List UInt8,Q1h false l = l.all fun c=>Q1o c || Q3u c
 | []=>rfl
 | c :: l=>by simp [Q1h,X6g l]
theorem Q1m (s:ByteArray):nameB s = (Q1h true s.data.toList && (decide (s.data.toList ≠ []) && decide (s.data.toList.length <= 24))):=by
 unfold nameB;cases s.data.toList with
 | nil=>rfl
 | cons c l =>
   simp only [Q1h,X6g,Bool.not_true,Bool.false_and,Bool.or_false,List.length_cons];rw [show decide (c :: l ≠ []) = true from by simp,Bool.true_and]
   congr 1
theorem Z4d (s:ByteArray) (pos:Nat) (h:pos < s.size):s.data.toList.drop pos = s[pos]'h :: s.data.toList.drop (pos + 1):=by
 have h':pos < s.data.toList.length:=by simpa using h
 rw [List.drop_eq_getElem_cons h'];rfl
theorem Y2q (c:UInt8):Q1o c = (decide (97 <= c.toNat /\ c.toNat <= 122) || decide (65 <= c.toNat /\ c.toNat <= 90)):=by
 unfold Q1o;simp only [UInt8.le_iff_toNat_le];simp
theorem Y8w (c:UInt8):Q3u c = (decide (c.toNat = 95) || decide (48 <= c.toNat /\ c.toNat <= 57)):=by
 unfold Q3u;simp only [UInt8.le_iff_toNat_le];rw [show (c == 95) = decide (c.toNat = 95) from by rw [show (c == 95) = decide (c = 95) from rfl]; exact decide_eq_decide.2 ⟨fun h=>by subst h; rfl,fun h=>UInt8.toNat_inj.1 h⟩]
 simp
theorem J7c (s:ByteArray) (pos:Nat) (h:pos < s.size):∃ n d,Utf8.decode s pos = (n,d) /\ 1 <= d /\ (n < 128 -> n = (s[pos]'h).toNat /\ d = 1) /\ (128 <= n -> 128 <= (s[pos]'h).toNat):=by
 by_cases ha:(s[pos]'h).toNat < 128
 . exact ⟨_,_,decode_ascii s pos h ha,Nat.le_refl _,fun _=>⟨rfl,rfl⟩,fun h'=>h'⟩
 . have:=decode_high s pos h (by omega)
   obtain ⟨n,d,hnd⟩:∃ n d,Utf8.decode s pos = (n,d):=⟨_,_,rfl⟩;rw [hnd] at this;exact ⟨n,d,hnd,this.2,fun h'=>by have:=this.1; omega,fun _=>by omega⟩
theorem Z4b {s:ByteArray} (h:s.toList = []):s.data.toList = []:=by rw [toList_nil_iff_emptyBytes] at h; subst h; rfl
theorem Z9e {s:ByteArray} (h:¬ s.toList = []):s.data.toList ≠ []:=fun e=>h (by
 rw [toList_nil_iff_emptyBytes];obtain ⟨⟨l⟩⟩:=s;simp only at e;subst e; rfl)
theorem Y3n (w:World) (s:ByteArray) (hs:Short s) :
    Calls Tryz.prog 105 #[.string s] w fun e w'=>e = .returned (.bool (nameB s)) /\ Ext w w':=by
 unfold Short at hs;go_enter Tryz.func105,Tryz.ntmps105;go_wp2
 go_loopw [9] (fun _ w'=>∃ pos:Nat,w' = w.iter s pos /\ Q1h (pos == 0) (s.data.toList.drop pos) = Q1h true s.data.toList) (fun _ w'=>s.size - w'.iterPos w.heap.size)
 case atStart=>exact ⟨0,rfl,rfl⟩
 case round =>
  obtain ⟨pos,rfl,hc⟩:=hrel;have HC:=Lib.hid hc; clear hc
  by_cases hp:pos < s.size
  . obtain ⟨n,d,hd,hd1,hn1,hn2⟩:=J7c s pos hp
    have hnx:∀ ty,(Instr.next (.pointer (some ⟨w.heap.size,0,none⟩)) true ty).run Tryz.prog (w.iter s pos) = .ok (.tuple #[.bool true,.int .i64 pos,.int .i32 n]) (w.iter s (pos + d)):=fun ty=>by
     rw [run_next_any w s pos ty hp,hd]
    have HB:=Lib.hid (Z4d s pos hp);have HL:=Lib.hid (Y2q (s[pos]'hp));have HO:=Lib.hid (Y8w (s[pos]'hp));obtain ⟨c,hcc⟩:∃ c,s[pos]'hp = c:=⟨_,rfl⟩;rw [hcc] at hn1 hn2 HB HL HO;have HN1:=Lib.hid hn1;have HN2:=Lib.hid hn2;clear hcc hd hn1 hn2;have hcl:(65 <= n /\ n <= 90) ∨ (97 <= n /\ n <= 122) ∨ (48 <= n /\ n <= 57) ∨ n = 95 ∨ n < 48 ∨ (58 <= n /\ n < 65) ∨ (91 <= n /\ n < 97 /\ n ≠ 95) ∨ 123 <= n:=by omega
    obtain ⟨N,hN⟩:∃ N:Int,(n:Int) = N:=⟨_,rfl⟩;rw [hN] at hnx
    rcases hcl with hcl | hcl | hcl | hcl | hcl | hcl | hcl | hcl
    . have f0:65 <= N:=by omega
      have f1:N <= 90:=by omega
      have HX:Hid (Q1o c = true):=by
       exact (by rw [HL.out,<- (HN1.out (by omega)).1]; simp; omega:Q1o c = true)
      have HD:Hid (d = 1):=by exact (HN1.out (by omega)).2
      clear hcl hN;go_wp2;go_roundw
      case rel=>exact ⟨pos + d,rfl,by rw [<- HC.out,HB.out,HD.out]; simp [Q1h,HX.out]⟩
      case measure=>simp; omega
    . have f0:65 <= N:=by omega
      have f1:¬ N <= 90:=by omega
      have f2:97 <= N:=by omega
      have f3:N <= 122:=by omega
      have HX:Hid (Q1o c = true):=by
       exact (by rw [HL.out,<- (HN1.out (by omega)).1]; simp; omega:Q1o c = true)
      have HD:Hid (d = 1):=by exact (HN1.out (by omega)).2
      clear hcl hN;go_wp2;go_roundw
      case rel=>exact ⟨pos + d,rfl,by rw [<- HC.out,HB.out,HD.out]; simp [Q1h,HX.out]⟩
      case measure=>simp; omega
    . have f0:¬ 65 <= N:=by omega
      have f1:¬ 97 <= N:=by omega
      have f2:48 <= N:=by omega
      have f3:N <= 57:=by omega
      have HX:Hid (Q1o c = false /\ Q3u c = true):=by
       exact (by rw [HL.out,HO.out,<- (HN1.out (by omega)).1]; simp; omega:Q1o c = false /\ Q3u c = true)
      have HD:Hid (d = 1):=by exact (HN1.out (by omega)).2
      clear hcl hN
      by_cases h0:pos = 0
      . subst h0
        go_wp2;go_ret;exact ⟨Q0z (by rw [Q1m,<- HC.out,HB.out]; simp [Q1h,HX.out.1]),Ext.box _ _⟩
      . have h0':(((pos:Nat):Int) == 0) = false:=by rw [beq_eq_false_iff_ne]; omega
        have HP:=Lib.hid h0; clear h0;go_wp2;go_roundw
        case rel=>exact ⟨pos + d,rfl,by rw [<- HC.out,HB.out,HD.out]; simp [Q1h,HX.out.1,HX.out.2,HP.out]⟩
        case measure=>simp; omega
    . have f0:65 <= N:=by omega
      have f1:¬ N <= 90:=by omega
      have f2:¬ 97 <= N:=by omega
      have f3:48 <= N:=by omega
      have f4:¬ N <= 57:=by omega
      have f5:(N == 95) = true:=by rw [beq_iff_eq]; omega
      have HX:Hid (Q1o c = false /\ Q3u c = true):=by
       exact (by rw [HL.out,HO.out,<- (HN1.out (by omega)).1]; simp; omega:Q1o c = false /\ Q3u c = true)
      have HD:Hid (d = 1):=by exact (HN1.out (by omega)).2
      clear hcl hN
      by_cases h0:pos = 0
      . subst h0
        go_wp2;go_ret;exact ⟨Q0z (by rw [Q1m,<- HC.out,HB.out]; simp [Q1h,HX.out.1]),Ext.box _ _⟩
      . have h0':(((pos:Nat):Int) == 0) = false:=by rw [beq_eq_false_iff_ne]; omega
        have HP:=Lib.hid h0; clear h0;go_wp2;go_roundw
        case rel=>exact ⟨pos + d,rfl,by rw [<- HC.out,HB.out,HD.out]; simp [Q1h,HX.out.1,HX.out.2,HP.out]⟩
        case measure=>simp; omega
    . have f0:¬ 65 <= N:=by omega
      have f1:¬ 97 <= N:=by omega
      have f2:¬ 48 <= N:=by omega
      have f3:(N == 95) = false:=by rw [beq_eq_false_iff_ne]; omega
      have HX:Hid (Q1o c = false /\ Q3u c = false):=by
       exact (by
        rcases Nat.lt_or_ge n 128 with h | h
        . rw [HL.out,HO.out,<- (HN1.out h).1]; simp; omega
        . have:=HN2.out h
          rw [HL.out,HO.out]; simp; omega:Q1o c = false /\ Q3u c = false)
      clear hcl hN
      by_cases h0:pos = 0
      . subst h0
        go_wp2;go_ret;exact ⟨Q0z (by rw [Q1m,<- HC.out,HB.out]; simp [Q1h,HX.out.1]),Ext.box _ _⟩
      . have h0':(((pos:Nat):Int) == 0) = false:=by rw [beq_eq_false_iff_ne]; omega
        have HP:=Lib.hid h0; clear h0;go_wp2;go_ret;exact ⟨Q0z (by rw [Q1m,<- HC.out,HB.out]; simp [Q1h,HX.out.1,HX.out.2]),Ext.box _ _⟩
    . have f0:¬ 65 <= N:=by omega
      have f1:¬ 97 <= N:=by omega
      have f2:48 <= N:=by omega
      have f3:¬ N <= 57:=by omega
      have f4:(N == 95) = false:=by rw [beq_eq_false_iff_ne]; omega
      have HX:Hid (Q1o c = false /\ Q3u c = false):=by
       exact (by
        rcases Nat.lt_or_ge n 128 with h | h
        . rw [HL.out,HO.out,<- (HN1.out h).1]; simp; omega
        . have:=HN2.out h
          rw [HL.out,HO.out]; simp; omega:Q1o c = false /\ Q3u c = false)
      clear hcl hN
      by_cases h0:pos = 0
      . subst h0
        go_wp2;go_ret;exact ⟨Q0z (by rw [Q1m,<- HC.out,HB.out]; simp [Q1h,HX.out.1]),Ext.box _ _⟩
      . have h0':(((pos:Nat):Int) == 0) = false:=by rw [beq_eq_false_iff_ne]; omega
        have HP:=Lib.hid h0; clear h0;go_wp2;go_ret;exact ⟨Q0z (by rw [Q1m,<- HC.out,HB.out]; simp [Q1h,HX.out.1,HX.out.2]),Ext.box _ _⟩
    . have f0:65 <= N:=by omega
      have f1:¬ N <= 90:=by omega
      have f2:¬ 97 <= N:=by omega
      have f3:48 <= N:=by omega
      have f4:¬ N <= 57:=by omega
      have f5:(N == 95) = false:=by rw [beq_eq_false_iff_ne]; omega
      have HX:Hid (Q1o c = false /\ Q3u c = false):=by
       exact (by
        rcases Nat.lt_or_ge n 128 with h | h
        . rw [HL.out,HO.out,<- (HN1.out h).1]; simp; omega
        . have:=HN2.out h
          rw [HL.out,HO.out]; simp; omega:Q1o c = false /\ Q3u c = false)
      clear hcl hN
      by_cases h0:pos = 0
      . subst h0
        go_wp2;go_ret;exact ⟨Q0z (by rw [Q1m,<- HC.out,HB.out]; simp [Q1h,HX.out.1]),Ext.box _ _⟩
      . have h0':(((pos:Nat):Int) == 0) = false:=by rw [beq_eq_false_iff_ne]; omega
        have HP:=Lib.hid h0; clear h0;go_wp2;go_ret;exact ⟨Q0z (by rw [Q1m,<- HC.out,HB.out]; simp [Q1h,HX.out.1,HX.out.2]),Ext.box _ _⟩
    . have f0:65 <= N:=by omega
      have f1:¬ N <= 90:=by omega
      have f2:97 <= N:=by omega
      have f3:¬ N <= 122:=by omega
      have f4:48 <= N:=by omega
      have f5:¬ N <= 57:=by omega
      have f6:(N == 95) = false:=by rw [beq_eq_false_iff_ne]; omega
      have HX:Hid (Q1o c = false /\ Q3u c = false):=by
       exact (by
        rcases Nat.lt_or_ge n 128 with h | h
        . rw [HL.out,HO.out,<- (HN1.out h).1]; simp; omega
        . have:=HN2.out h
          rw [HL.out,HO.out]; simp; omega:Q1o c = false /\ Q3u c = false)
      clear hcl hN
      by_cases h0:pos = 0
      . subst h0
        go_wp2;go_ret;exact ⟨Q0z (by rw [Q1m,<- HC.out,HB.out]; simp [Q1h,HX.out.1]),Ext.box _ _⟩
      . have h0':(((pos:Nat):Int) == 0) = false:=by rw [beq_eq_false_iff_ne]; omega
        have HP:=Lib.hid h0; clear h0;go_wp2;go_ret;exact ⟨Q0z (by rw [Q1m,<- HC.out,HB.out]; simp [Q1h,HX.out.1,HX.out.2]),Ext.box _ _⟩
  . have hnx:∀ ty,(Instr.next (.pointer (some ⟨w.heap.size,0,none⟩)) true ty).run Tryz.prog (w.iter s pos) = _:=fun ty=>run_next_end w s pos ty hp
    have HF:Hid (Q1h true s.data.toList = true):=by
     exact (by rw [<- HC.out,List.drop_eq_nil_of_le (by simpa using hp)]; rfl:Q1h true s.data.toList = true)
    have hsz:s.data.toList.length = s.size:=by simp
    have HS:=Lib.hid hsz;clear hsz hp
    by_cases h24:(s.size:Int) <= 24
    . have H24:=Lib.hid h24
      go_wp2
      . have he:s.toList = []:=by assumption
        go_ret;exact ⟨Q0z (by rw [Q1m,HF.out,Z4b he]; rfl),Ext.box _ _⟩
      . have he:¬ s.toList = []:=by assumption
        go_ret;exact ⟨Q0z (by have:=HS.out; have:=H24.out; rw [Q1m,HF.out,Bool.true_and,decide_eq_true (Z9e he),Bool.true_and]; rw [decide_eq_true (by omega:s.data.toList.length <= 24)]; simp [he]),Ext.box _ _⟩
    . have H24:=Lib.hid h24
      go_wp2
      . have he:s.toList = []:=by assumption
        go_ret;exact ⟨Q0z (by rw [Q1m,HF.out,Z4b he]; rfl),Ext.box _ _⟩
      . have he:¬ s.toList = []:=by assumption
        go_ret;exact ⟨Q0z (by have:=HS.out; have:=H24.out; rw [Q1m,HF.out,Bool.true_and,decide_eq_true (Z9e he),Bool.true_and]; exact (decide_eq_false (by omega)).symm),Ext.box _ _⟩
end Go.Proofs
namespace Go.Proofs
open Go.RowKit Go.Tw Go.Flow
theorem Z5p (w:World) (s:ByteArray) (hs:Short s) :
    Calls Tryz.prog 88 #[.string s] w fun e w'=>e = .returned (.bool (nameB s)) /\ w = w':=by
 unfold Short at hs;have hsz:s.data.toList.length = s.size:=by simp
 by_cases hz:s.size = 0
 . have HR:Hid (nameB s = false):=by
    rw [Q1m];have:s.data.toList = []:=List.length_eq_zero_iff.1 (by omega)
    rw [this]; exact rfl
   have hz':((s.size:Int) == 0) = true:=by rw [beq_iff_eq]; omega
   clear hz hsz;go_enter Tryz.func88,Tryz.ntmps88;go_wp2;go_ret;exact ⟨Q0z HR.out.symm,rfl⟩
 . have hz':((s.size:Int) == 0) = false:=by rw [beq_eq_false_iff_ne]; omega
   by_cases hb:24 < s.size
   . have HR:Hid (nameB s = false):=by
      rw [Q1m,show decide (s.data.toList.length <= 24) = false from decide_eq_false (by omega)]
      rw [Bool.and_false,Bool.and_false]; exact rfl
     have hb':(24:Int) < (s.size:Int):=by omega
     clear hz hsz;go_enter Tryz.func88,Tryz.ntmps88;go_wp2;go_ret;exact ⟨Q0z HR.out.symm,rfl⟩
   . have HR:Hid (nameB s = Q1h true s.data.toList):=by
      rw [Q1m,show decide (s.data.toList.length <= 24) = true from decide_eq_true (by omega),show decide (s.data.toList ≠ []) = true from decide_eq_true (fun e=>hz (by rw [<- hsz,e]; rfl))]
      rw [Bool.and_true,Bool.and_true]; exact rfl
     have HSZ:=Lib.hid hsz;have hb':¬ (24:Int) < (s.size:Int):=by omega
     clear hz hsz;go_enter Tryz.func88,Tryz.ntmps88;go_wp2
     go_loop [3] (fun i=>∃ k:Nat,k <= s.size /\ i = .int .i64 k /\ Q1h (k == 0) (s.data.toList.drop k) = Q1h true s.data.toList) (fun i=>s.size - (intOf i).toNat)
     case atStart=>exact ⟨0,Nat.zero_le _,rfl,rfl⟩
     case round =>
      obtain ⟨k,hk,rfl,hc⟩:=hrel;have HC:=Lib.hid hc; clear hc
      by_cases hlt:k < s.size
      . have HB:=Lib.hid (Z4d s k hlt)
        have HL:=Lib.hid (Y2q (s[k]'hlt));have HO:=Lib.hid (Y8w (s[k]'hlt));have hcl:(65 <= (s[k]'hlt).toNat /\ (s[k]'hlt).toNat <= 90) ∨ (97 <= (s[k]'hlt).toNat /\ (s[k]'hlt).toNat <= 122) ∨ (48 <= (s[k]'hlt).toNat /\ (s[k]'hlt).toNat <= 57) ∨ (s[k]'hlt).toNat = 95 ∨ (s[k]'hlt).toNat < 48 ∨ (58 <= (s[k]'hlt).toNat /\ (s[k]'hlt).toNat < 65) ∨ (91 <= (s[k]'hlt).toNat /\ (s[k]'hlt).toNat < 97 /\ (s[k]'hlt).toNat ≠ 95) ∨ 123 <= (s[k]'hlt).toNat:=by omega
        have hdef:((s[k]'hlt).toNat:Int) = 95 ∨ ¬ ((s[k]'hlt).toNat:Int) = 95:=by omega
        have go (b1 b2:Bool) (hl:Q1o (s[k]'hlt) = b1) (ho:Q3u (s[k]'hlt) = b2):Q1h (k == 0) (s.data.toList.drop k) = ((b1 || (!(k == 0) && b2)) && Q1h false (s.data.toList.drop (k + 1))):=by
         rw [HB.out,Q1h,hl,ho]
        have GO:=Lib.hid go;clear go
        rcases hcl with hcl | hcl | hcl | hcl | hcl | hcl | hcl | hcl
        case inl | inr.inl =>
         all_goals
          have HX:Hid (Q1o (s[k]'hlt) = true):=by
           exact (by rw [HL.out]; simp; omega:Q1o (s[k]'hlt) = true)
          have f0:decide (97 <= ((s[k]'hlt).toNat:Int)) = decide (97 <= (s[k]'hlt).toNat):=by rw [decide_eq_decide]; omega
          have f1:(65:Int) <= ((s[k]'hlt).toNat:Int):=by omega
          have f2:((s[k]'hlt).toNat:Int) <= 122:=by omega
          first | (have f3:((s[k]'hlt).toNat:Int) <= 90:=by omega) | (have f3:(97:Int) <= ((s[k]'hlt).toNat:Int):=by omega)
          first | (have f4:¬ (97:Int) <= ((s[k]'hlt).toNat:Int):=by omega) | skip
          clear hcl hdef f0;go_wp2;go_round
          case rel=>exact ⟨k + 1,by omega,by go_num,by rw [<- HC.out,GO.out _ _ HX.out rfl,Bool.true_or,Bool.true_and]; rfl⟩
          case measure=>simp [intOf]; omega
        case inr.inr.inl | inr.inr.inr.inl =>
         all_goals
          have HX:Hid (Q1o (s[k]'hlt) = false /\ Q3u (s[k]'hlt) = true):=by
           exact (by rw [HL.out,HO.out]; simp; omega:Q1o (s[k]'hlt) = false /\ Q3u (s[k]'hlt) = true)
          have f1:¬ (97:Int) <= ((s[k]'hlt).toNat:Int):=by omega
          first | (have f2:¬ (65:Int) <= ((s[k]'hlt).toNat:Int):=by omega) | (have f2:(65:Int) <= ((s[k]'hlt).toNat:Int):=by omega)
          have f3:(¬ ((s[k]'hlt).toNat:Int) <= 90) ∨ ((s[k]'hlt).toNat:Int) <= 90:=by omega
          first | (have f4:¬ ((s[k]'hlt).toNat:Int) <= 90:=by omega) | skip
          first | (have f5:(((s[k]'hlt).toNat:Int) != 95) = false:=by rw [bne_eq_false_iff_eq]; omega) | (have f5:(((s[k]'hlt).toNat:Int) != 95) = true:=by rw [bne_iff_ne]; omega)
          first | (have f6:¬ ((s[k]'hlt).toNat:Int) < 48:=by omega) | skip
          first | (have f7:¬ (57:Int) < ((s[k]'hlt).toNat:Int):=by omega) | skip
          clear hcl hdef f3
          by_cases h0:k = 0
          . subst h0
            go_wp2;go_ret;exact ⟨Q0z (by rw [HR.out,<- HC.out,GO.out _ _ HX.out.1 HX.out.2]; rfl),rfl⟩
          . have h0':(((k:Nat):Int) == 0) = false:=by rw [beq_eq_false_iff_ne]; omega
            have HK:Hid ((k == 0) = false):=Lib.hid (by rw [beq_eq_false_iff_ne]; omega)
            clear h0;go_wp2;go_round
            case rel=>exact ⟨k + 1,by omega,by go_num,by rw [<- HC.out,GO.out _ _ HX.out.1 HX.out.2,HK.out]; rfl⟩
            case measure=>simp [intOf]; omega
        all_goals
         have HX:Hid (Q1o (s[k]'hlt) = false /\ Q3u (s[k]'hlt) = false):=by
          exact (by rw [HL.out,HO.out]; simp; omega:Q1o (s[k]'hlt) = false /\ Q3u (s[k]'hlt) = false)
         first | (have f1:¬ (97:Int) <= ((s[k]'hlt).toNat:Int):=by omega) | (have f1:(97:Int) <= ((s[k]'hlt).toNat:Int):=by omega)
         first | (have f2:¬ (65:Int) <= ((s[k]'hlt).toNat:Int):=by omega) | (have f2:(65:Int) <= ((s[k]'hlt).toNat:Int):=by omega)
         first | (have f3:¬ ((s[k]'hlt).toNat:Int) <= 122:=by omega) | skip
         first | (have f4:¬ ((s[k]'hlt).toNat:Int) <= 90:=by omega) | skip
         have f5:(((s[k]'hlt).toNat:Int) != 95) = true:=by rw [bne_iff_ne]; omega
         first | (have f6:((s[k]'hlt).toNat:Int) < 48:=by omega) | (have f6:¬ ((s[k]'hlt).toNat:Int) < 48:=by omega)
         first | (have f7:(57:Int) < ((s[k]'hlt).toNat:Int):=by omega) | skip
         clear hcl hdef
         by_cases h0:k = 0
         . subst h0
           go_wp2;go_ret;exact ⟨Q0z (by rw [HR.out,<- HC.out,GO.out _ _ HX.out.1 HX.out.2]; rfl),rfl⟩
         . have h0':(((k:Nat):Int) == 0) = false:=by rw [beq_eq_false_iff_ne]; omega
           clear h0;go_wp2;go_ret;exact ⟨Q0z (by rw [HR.out,<- HC.out,GO.out _ _ HX.out.1 HX.out.2]; simp),rfl⟩
      . go_wp2
        go_ret;exact ⟨Q0z (by rw [HR.out,<- HC.out,List.drop_eq_nil_of_le (by rw [HSZ.out]; omega)]; rfl),rfl⟩
end Go.Proofs
namespace Go.Tw
def Q0r (l:List Int) (most:Int):Int:=Q0k (l.map fun x=>Q0g x 0 most)
def Q3d (l:List Mem) (i:Nat):Bool:=(List.range i).any fun k=>Q1d l k == Q1d l i
namespace Q0b
def Q2w (s:Q0b) (i:Nat):Int :=
 if nameB (Q1d s.members i) = false then 8 else if Q3d s.members i = true then 9 else if Q0g (Q0h s.members i) 1 1000 ≠ 0 then 3 else
 if ¬ ((Q0d s.members i).length = s.ships.length /\ (Q0n s.members i).length = s.ships.length /\ (Q0s s.members i).length = s.ships.length) then 2 else
 Q0k [Q0r (Q0d s.members i) 9,Q0r (Q0n s.members i) 1024,Q0r (Q0s s.members i) 1024]
def err (s:Q0b):Int :=
 if Q0g s.limit 0 1024 ≠ 0 then 3 else if s.ships.length = 0 then 12 else if 6 < s.ships.length then 5 else if Q0r s.ships 1000 ≠ 0 then 3 else
 if s.members.length = 0 then 12 else if 8 < s.members.length then 5 else Q0k ((List.range s.members.length).map s.Q2w)
end Q0b
def X8c (h:List Int) (row:List (List Int)):List (List Int) :=
 let k:=Q3o h row row.length
 if 0 < k /\ row.getD (k - 1) [] = h then row else row.take k ++ [h] ++ row.drop k
namespace Q0b
def Y2b (s:Q0b) (t:Nat):Nat -> List (List Int)
 | 0=>[]
 | i + 1=>X8c ((Q0d s.members i).take (t + 1)) (s.Y2b t i)
def X3k (s:Q0b):Nat -> List (List Int)
 | 0=>[]
 | t + 1=>s.X3k t ++ s.Y2b t s.members.length
def hist (s:Q0b):List (List Int):=s.X3k s.ships.length
def X7u (s:Q0b):List (List Int):=s.members.flatMap fun m=>(List.range m.classes.length).map fun t=>m.classes.take (t + 1)
end Q0b
def Q4l (h:List (List Int)) (p:List Rul):Int:=if p.length ≠ h.length then 2 else if (p.map Rul.classes) ≠ h then 11 else 0
def always (s:Q0b) (c:Bool):List Rul:=s.hist.map fun h=>⟨h,c⟩
def Y8d (p:List Rul) (n:Nat):List Rul:=(List.range p.length).map fun i=>⟨Q3a p i,X6m p i != (i == n)⟩
def look (p:List Rul) (h:List Int):Bool:=match p.find? (fun r=>r.classes == h) with | some r=>r.close | none=>false
def Q0w (p:List Rul) (l:List Int):List Bool:=(List.range l.length).map fun t=>look p (l.take (t + 1))
namespace Mem
def stepT (m:Mem) (t:Nat) (level:Int) (c:Bool):Int × Int:=if c then (level + ix m.inflow t,level + ix m.inflow t) else (ix m.outside t,0)
def Q2i (m:Mem):Nat -> Int -> List Bool -> List Int
 | _,_,[]=>[]
 | t,level,c :: r=>(m.stepT t level c).1 :: m.Q2i (t + 1) (m.stepT t level c).2 r
def Q8n (m:Mem) (l:List Bool):List Int:=m.Q2i 0 0 l
def keeps (m:Mem) (limit:Int) (l:List Bool):Bool:=!((m.Q8n l).any fun x=>decide (limit < x))
end Mem
def Q1k (s:Q0b) (i:Nat):Mem:=s.members.getD i default
def X9b (s:Q0b) (p:List Rul):List Int :=
 ((List.range s.members.length).filter fun i=>(Q1k s i).keeps s.limit (Q0w p (Q1k s i).classes)).map Int.ofNat
def Q6b (s:Q0b) (l:List Int):Int:=(l.map fun i=>Q0h s.members i.toNat).sum
def countB (l:List Bool):Int:=(l.countP id:Nat)
def Q2s (s:Q0b) (l:List Bool):Int:=((List.range l.length).map fun t=>if l.getD t false then ix s.ships t else 0).sum
def Q3j (s:Q0b) (p:List Rul):Int:=(s.members.map fun m=>m.weight * countB (Q0w p m.classes)).sum
def X1f (s:Q0b) (p:List Rul):Int:=(s.members.map fun m=>m.weight * Q2s s (Q0w p m.classes)).sum
def Q7q (n t:Nat):List Bool:=(List.range t).map fun i=>n.testBit (t - 1 - i)
namespace Mem
def Z3l (m:Mem) (limit:Int) (t:Nat):Nat -> Option (List Bool)
 | 0=>none
 | n + 1=>if m.keeps limit (Q7q n t) = true /\ (∀ b,m.Z3l limit t n = some b -> countB (Q7q n t) < countB b) then some (Q7q n t) else m.Z3l limit t n
def J9e (m:Mem) (limit:Int) (t:Nat):Bool:=(List.range (2 ^ t)).any fun n=>m.keeps limit (Q7q n t)
end Mem
def alone (s:Q0b) (i:Nat):Option (List Bool):=(Q1k s i).Z3l s.limit s.ships.length (2 ^ s.ships.length)
def Z9g (s:Q0b) (i:Nat):Option Nat:=(List.range s.ships.length).find? fun t=>!(Q1k s i).J9e s.limit (t + 1)
def Q8e (s:Q0b) (i:Nat):List Nat:=(List.range s.members.length).filter fun k=>Q0d s.members k == Q0d s.members i
def Q9b (s:Q0b) (l:List Nat) (n:Nat):Int:=(l.map fun k=>if (Q1k s k).keeps s.limit (Q7q n s.ships.length) then Q0h s.members k else 0).sum
def X3a (s:Q0b) (l:List Nat):Int:=(List.range (2 ^ s.ships.length)).foldl (fun m n=>max m (Q9b s l n)) 0
def Q4q (s:Q0b):List Grp :=
 ((List.range s.members.length).filter fun i=>(Q8e s i).head? == some i).map fun i=>⟨(Q8e s i).map Int.ofNat,X3a s (Q8e s i)⟩
def Y3l (s:Q0b):Int:=((Q4q s).map Grp.weight).sum
structure Plan where
 weight:Int
 closings:Int
 delay:Int
 closed:List ByteArray
structure Runner where
 member:Nat
 level:Int
 dry:Bool
def Plan.Q4f (x o:Plan):Bool:=decide (o.weight <= x.weight) && decide (x.closings <= o.closings) && decide (x.delay <= o.delay)
def Q1u (out:List Plan) (x:Plan):List Plan:=if out.any (fun o=>o.Q4f x) then out else (out.filter fun o=>!x.Q4f o) ++ [x]
def X8r (l:List Plan):List Plan:=l.foldl Q1u []
def both (x y:Plan):Plan:=⟨x.weight + y.weight,x.closings + y.closings,x.delay + y.delay,x.closed ++ y.closed⟩
def together (a b:List Plan):List Plan:=X8r (a.flatMap fun x=>b.map (both x))
def Q6k (l:List Int):ByteArray:=⟨(l.map fun n=>UInt8.ofNat n.toNat).toArray⟩
def moved (s:Q0b) (t:Nat) (c:Bool) (l:List Runner):List Runner :=
 l.map fun x=>⟨x.member,((Q1k s x.member).stepT t x.level c).2,x.dry && decide (((Q1k s x.member).stepT t x.level c).1 <= s.limit)⟩
def Q5s (s:Q0b) (l:List Runner):Int:=(l.map fun x=>Q0h s.members x.member).sum
def Y5d (s:Q0b) (l:List Runner):Int:=(l.map fun x=>if x.dry then Q0h s.members x.member else 0).sum
def Q7v (s:Q0b) (t c:Nat) (l:List Runner):List Runner:=l.filter fun x=>ix (Q0d s.members x.member) t == (c:Int)
def Y7n (s:Q0b) (t:Nat):List Runner -> ByteArray
 | []=>⟨#[]⟩
 | x :: _=>Q6k ((Q0d s.members x.member).take (t + 1))
def Y3q (s:Q0b) (t:Nat) (l:List Runner) (x:Plan):Plan:=⟨x.weight,x.closings + Q5s s l,x.delay + Q5s s l * ix s.ships t,x.closed ++ [Y7n s t l]⟩
def Q3v (s:Q0b) (t:Nat) (sub:List Runner -> List Plan) (l:List Runner):List Plan :=
 X8r (sub (moved s t false l) ++ (sub (moved s t true l)).map (Y3q s t l))
def Q2f (s:Q0b) (t:Nat) (sub:List Runner -> List Plan) (l:List Runner):Nat -> List Plan
 | 0=>[⟨0,0,0,[]⟩]
 | c + 1=>if Q7v s t c l = [] then Q2f s t sub l c else together (Q2f s t sub l c) (Q3v s t sub (Q7v s t c l))
def Q2d (s:Q0b):Nat -> List Runner -> List Plan
 | 0,l=>[⟨Y5d s l,0,0,[]⟩]
 | k + 1,l=>Q2f s (s.ships.length - (k + 1)) (Q2d s k) l 10
def Q1v (s:Q0b):List Plan:=Q2d s s.ships.length ((List.range s.members.length).map fun i=>⟨i,0,true⟩)
def X7f (s:Q0b):Int:=(Q1v s).foldl (fun m x=>max m x.weight) 0
def Q1s (need:Int) (b:Option Plan) (x:Plan):Option Plan :=
 if x.weight < need then b else match b with
 | none=>some x
 | some o=>if x.closings < o.closings ∨ x.closings = o.closings /\ x.delay < o.delay then some x else b
def X0f (s:Q0b) (need:Int):Option Plan:=(Q1v s).foldl (Q1s need) none
def X0e (s:Q0b) (x:Plan):List Rul:=s.hist.map fun h=>⟨h,x.closed.contains (Q6k h)⟩
end Go.Tw
namespace Go.Tw
theorem Y6u {α:Type} {R:α -> α -> Prop} (irr:∀ a,¬ R a a) (asym:∀ a b,R a b -> ¬ R b a) :
    ∀ {l m:List α},l.Pairwise R -> m.Pairwise R -> (∀ x,x ∈ l ↔ x ∈ m) -> l = m
 | [],[],_,_,_=>rfl
 | [],b :: m,_,_,h=>absurd ((h b).2 List.mem_cons_self) (by simp)
 | a :: l,[],_,_,h=>absurd ((h a).1 List.mem_cons_self) (by simp)
 | a :: l,b :: m,hl,hm,h=>by
   obtain ⟨hl1,hl2⟩:=List.pairwise_cons.1 hl;obtain ⟨hm1,hm2⟩:=List.pairwise_cons.1 hm;have hab:a = b:=by
    rcases List.mem_cons.1 ((h a).1 List.mem_cons_self) with e | e
    . exact e
    . rcases List.mem_cons.1 ((h b).2 List.mem_cons_self) with e' | e'
      . exact e'.symm
      . exact absurd (hm1 a e) (asym _ _ (hl1 b e'))
   subst hab;rw [Y6u irr asym hl2 hm2 fun x=>?_]
   constructor
   . intro hx
     rcases List.mem_cons.1 ((h x).1 (List.mem_cons_of_mem _ hx)) with e | e
     . subst e; exact absurd (hl1 _ hx) (irr _)
     . exact e
   . intro hx
     rcases List.mem_cons.1 ((h x).2 (List.mem_cons_of_mem _ hx)) with e | e
     . subst e; exact absurd (hm1 _ hx) (irr _)
     . exact e
theorem X6k:∀ a:List Int,Q6s a a = false
 | []=>rfl
 | x :: l=>by simp [Q6s,X6k l]
theorem Y2r:∀ {a b:List Int},Q6s a b = true -> Q6s b a = false
 | [],_,h=>by simp [Q6s] at h
 | _ :: _,[],h=>by simp [Q6s] at h
 | x :: l,y :: m,h=>by
   unfold Q6s at h ⊢
   by_cases e:x = y
   . subst e; simp only [if_true] at h ⊢; exact Y2r h
   . rw [if_neg e] at h; rw [if_neg (Ne.symm e)]; simp only [decide_eq_true_eq,decide_eq_false_iff_not] at h ⊢; omega
theorem X8l:∀ {a b c:List Int},Q6s a b = true -> Q6s b c = true -> Q6s a c = true
 | [],_,_,h,_=>by simp [Q6s] at h
 | _ :: _,[],_,h,_=>by simp [Q6s] at h
 | _ :: _,_ :: _,[],_,h=>by simp [Q6s] at h
 | x :: l,y :: m,z :: n,h,k=>by
   unfold Q6s at h k ⊢
   by_cases e:x = y
   . subst e; simp only [if_true] at h
     by_cases e':x = z
     . subst e'; simp only [if_true] at k ⊢; exact X8l h k
     . rw [if_neg e'] at k ⊢; exact k
   . rw [if_neg e] at h
     by_cases e':y = z
     . subst e'; rw [if_neg e]; exact h
     . rw [if_neg e'] at k; simp only [decide_eq_true_eq] at h k
       rw [if_neg (by omega)]; simp only [decide_eq_true_eq]; omega
theorem Y7q:∀ {a b:List Int},a.length = b.length -> Q6s a b = false -> a = b ∨ Q6s b a = true
 | [],[],_,_=>.inl rfl
 | [],_ :: _,h,_=>by simp at h
 | _ :: _,[],h,_=>by simp at h
 | x :: l,y :: m,h,k=>by
   unfold Q6s at k ⊢
   by_cases e:x = y
   . subst e; simp only [if_true] at k ⊢
     rcases Y7q (Nat.succ.inj h) k with r | r
     . exact .inl (by rw [r])
     . exact .inr r
   . rw [if_neg e] at k; rw [if_neg (Ne.symm e)]
     simp only [decide_eq_true_eq,decide_eq_false_iff_not] at k ⊢; exact .inr (by omega)
theorem Q7i (a:List Int):¬ Q1z a a = true:=by simp [Q1z,X6k]
theorem Z0q (a b:List Int) (h:Q1z a b = true):¬ Q1z b a = true:=by
 unfold Q1z at h ⊢
 by_cases e:a.length = b.length
 . rw [if_pos e] at h; rw [if_pos e.symm,Y2r h]; simp
 . rw [if_neg e] at h; rw [if_neg (Ne.symm e)]; simp only [decide_eq_true_eq] at h ⊢; omega
theorem Q6c {a b c:List Int} (h:Q1z a b = true) (k:Q1z b c = true):Q1z a c = true:=by
 unfold Q1z at h k ⊢
 by_cases e:a.length = b.length
 . rw [if_pos e] at h
   by_cases e':b.length = c.length
   . rw [if_pos e'] at k; rw [if_pos (e.trans e')]; exact X8l h k
   . rw [if_neg e'] at k; rw [if_neg (by omega)]; rw [e]; exact k
 . rw [if_neg e] at h
   by_cases e':b.length = c.length
   . rw [if_neg (by omega),<- e']; exact h
   . rw [if_neg e'] at k; simp only [decide_eq_true_eq] at h k; rw [if_neg (by omega)]; simp only [decide_eq_true_eq]; omega
theorem X9s {a b:List Int} (h:Q1z a b = false):a = b ∨ Q1z b a = true:=by
 unfold Q1z at h ⊢
 by_cases e:a.length = b.length
 . rw [if_pos e] at h; rw [if_pos e.symm]; exact Y7q e h
 . rw [if_neg e] at h; rw [if_neg (Ne.symm e)]; simp only [decide_eq_true_eq,decide_eq_false_iff_not] at h ⊢; exact .inr (by omega)
def Asc (l:List (List Int)):Prop:=l.Pairwise fun a b=>Q1z a b = true
theorem J8w {l m:List (List Int)} (hl:Asc l) (hm:Asc m) (h:∀ x,x ∈ l ↔ x ∈ m):l = m :=
 Y6u Q7i Z0q hl hm h
theorem posB (h:List Int) (out:List (List Int)):∀ n,Q3o h out n <= n /\ (∀ i,Q3o h out n <= i -> i < n -> Q1z h (out.getD i []) = true) /\
    (0 < Q3o h out n -> Q1z h (out.getD (Q3o h out n - 1) []) = false)
 | 0=>⟨Nat.le_refl _,fun i _ h=>absurd h (Nat.not_lt_zero _),fun h=>absurd h (Nat.lt_irrefl _)⟩
 | n + 1=>by
   obtain ⟨h1,h2,h3⟩:=posB h out n;unfold Q3o
   by_cases e:Q1z h (out.getD n []) = true
   . rw [if_pos e]
     refine ⟨by omega,fun i hi hn=>?_,h3⟩
     by_cases hin:i = n
     . subst hin; exact e
     . exact h2 i hi (by omega)
   . rw [if_neg e]
     exact ⟨Nat.le_refl _,fun i hi hn=>by omega,fun _=>by simpa using e⟩
theorem row_mem (h:List Int) (row:List (List Int)) (x:List Int):x ∈ X8c h row ↔ x = h ∨ x ∈ row:=by
 unfold X8c;obtain ⟨h1,-,-⟩:=posB h row row.length
 by_cases e:0 < Q3o h row row.length /\ row.getD (Q3o h row row.length - 1) [] = h
 . dsimp only; rw [if_pos e]
   refine ⟨.inr,fun k=>k.elim (fun k=>?_) id⟩;subst k;have hlt:Q3o x row row.length - 1 < row.length:=by omega
   rw [List.getD_eq_getElem?_getD,List.getElem?_eq_getElem hlt,Option.getD_some] at e;exact e.2 ▸ List.getElem_mem hlt
 . dsimp only; rw [if_neg e]
   have hx:x ∈ row ↔ x ∈ row.take (Q3o h row row.length) ∨ x ∈ row.drop (Q3o h row row.length):=by
    rw [<- List.mem_append,List.take_append_drop]
   simp only [List.mem_append,List.mem_singleton,hx]
   constructor
   . rintro ((k | k) | k)
     . exact .inr (.inl k)
     . exact .inl k
     . exact .inr (.inr k)
   . rintro (k | k | k)
     . exact .inl (.inr k)
     . exact .inl (.inl k)
     . exact .inr k
theorem J6n (h:List Int) {row:List (List Int)} (ha:Asc row):Asc (X8c h row):=by
 unfold X8c;obtain ⟨h1,h2,h3⟩:=posB h row row.length
 by_cases e:0 < Q3o h row row.length /\ row.getD (Q3o h row row.length - 1) [] = h
 . dsimp only; rw [if_pos e]; exact ha
 . dsimp only; rw [if_neg e]
   generalize Q3o h row row.length = k at *;have hi:∀ i j (hi:i < row.length) (hj:j < row.length),i < j -> Q1z row[i] row[j] = true:=fun i j hi hj hij=>List.pairwise_iff_getElem.1 ha i j hi hj hij;have hd:∀ x ∈ row.drop k,Q1z h x = true:=by
    intro x hx;obtain ⟨i,hi,rfl⟩:=List.mem_iff_getElem.1 hx;rw [List.length_drop] at hi;rw [List.getElem_drop];have:=h2 (k + i) (by omega) (by omega)
    rwa [List.getD_eq_getElem?_getD,List.getElem?_eq_getElem (by omega),Option.getD_some] at this
   have ht:∀ x ∈ row.take k,Q1z x h = true:=by
    intro x hx;obtain ⟨i,hi',rfl⟩:=List.mem_iff_getElem.1 hx;rw [List.length_take] at hi';rw [List.getElem_take];have hk:0 < k:=by omega
    have h4:=h3 hk;have hlt:k - 1 < row.length:=by omega
    rw [List.getD_eq_getElem?_getD,List.getElem?_eq_getElem hlt,Option.getD_some] at h4 e;have h5:Q1z row[k - 1] h = true:=by
     rcases X9s h4 with r | r
     . exact absurd ⟨hk,r.symm⟩ e
     . exact r
    by_cases hik:i = k - 1
    . subst hik; exact h5
    . exact Q6c (hi i (k - 1) (by omega) hlt (by omega)) h5
   refine List.pairwise_append.2 ⟨List.pairwise_append.2 ⟨List.Pairwise.sublist (List.take_sublist _ _) ha,List.pairwise_singleton _ _,fun a ha' b hb=>?_⟩,List.Pairwise.sublist (List.drop_sublist _ _) ha,fun a ha' b hb=>?_⟩
   . rw [List.mem_singleton] at hb; subst hb; exact ht a ha'
   . rcases List.mem_append.1 ha' with r | r
     . exact Q6c (ht a r) (hd b hb)
     . rw [List.mem_singleton] at r; subst r; exact hd b hb
namespace Q0b
variable {s:Q0b}
theorem Y9c (t:Nat):∀ i,Asc (s.Y2b t i)
 | 0=>List.Pairwise.nil
 | i + 1=>J6n _ (Y9c t i)
theorem X8p (t:Nat) (x:List Int):∀ i,x ∈ s.Y2b t i ↔ ∃ k,k < i /\ x = (Q0d s.members k).take (t + 1)
 | 0=>by simp [Y2b]
 | i + 1=>by
   rw [Y2b,row_mem,X8p t x i]
   constructor
   . rintro (h | ⟨k,hk,h⟩)
     . exact ⟨i,Nat.lt_succ_self _,h⟩
     . exact ⟨k,by omega,h⟩
   . rintro ⟨k,hk,h⟩
     by_cases e:k = i
     . subst e; exact .inl h
     . exact .inr ⟨k,by omega,h⟩
theorem Q4k (x:List Int):∀ n,x ∈ s.X3k n ↔ ∃ t,t < n /\ ∃ k,k < s.members.length /\ x = (Q0d s.members k).take (t + 1)
 | 0=>by simp [X3k]
 | n + 1=>by
   rw [X3k,List.mem_append,Q4k x n,X8p]
   constructor
   . rintro (⟨t,ht,h⟩ | h)
     . exact ⟨t,by omega,h⟩
     . exact ⟨n,Nat.lt_succ_self _,h⟩
   . rintro ⟨t,ht,h⟩
     by_cases e:t = n
     . subst e; exact .inr h
     . exact .inl ⟨t,by omega,h⟩
def Shaped (s:Q0b):Prop:=∀ k,k < s.members.length -> (Q0d s.members k).length = s.ships.length /\ (Q0n s.members k).length = s.ships.length /\ (Q0s s.members k).length = s.ships.length
theorem Y3k (hs:s.Shaped):∀ n,n <= s.ships.length -> Asc (s.X3k n)
 | 0,_=>List.Pairwise.nil
 | n + 1,hn=>by
   refine List.pairwise_append.2 ⟨Y3k hs n (by omega),Y9c n _,fun a ha b hb=>?_⟩
   obtain ⟨t,ht,k,hk,rfl⟩:=(Q4k a n).1 ha;obtain ⟨j,hj,rfl⟩:=(X8p n b _).1 hb;have h1:=(hs k hk).1;have h2:=(hs j hj).1;unfold Q1z;rw [if_neg (by simp only [List.length_take]; omega)]
   simp only [List.length_take,decide_eq_true_eq]; omega
theorem Y5n (hs:s.Shaped):Asc s.hist:=Y3k hs _ (Nat.le_refl _)
theorem J6s (hs:s.Shaped) (x:List Int):x ∈ s.X7u ↔ x ∈ s.hist:=by
 rw [hist,Q4k,X7u,List.mem_flatMap]
 constructor
 . rintro ⟨m,hm,h⟩
   obtain ⟨t,ht,rfl⟩:=List.mem_map.1 h;rw [List.mem_range] at ht;obtain ⟨k,hk,rfl⟩:=List.mem_iff_getElem.1 hm;have e:Q0d s.members k = s.members[k].classes:=by rw [Q0d,Q0y _ hk]
   exact ⟨t,by rw [<- (hs k hk).1,e]; exact ht,k,hk,by rw [e]⟩
 . rintro ⟨t,ht,k,hk,rfl⟩
   have e:Q0d s.members k = s.members[k].classes:=by rw [Q0d,Q0y _ hk]
   refine ⟨s.members[k],List.getElem_mem hk,List.mem_map.2 ⟨t,?_,by rw [e]⟩⟩
   rw [List.mem_range,<- e,(hs k hk).1]; exact ht
theorem J6t (hs:s.Shaped) {l:List (List Int)} (hl:Asc l) (h:∀ x,x ∈ l ↔ x ∈ s.X7u):l = s.hist :=
 J8w hl (Y5n hs) fun x=>(h x).trans (J6s hs x)
end Q0b
end Go.Tw
namespace Go.Tw
theorem X0g {x o:Plan}:x.Q4f o = true ↔ o.weight <= x.weight /\ x.closings <= o.closings /\ x.delay <= o.delay:=by
 unfold Plan.Q4f; simp only [Bool.and_eq_true,decide_eq_true_eq,and_assoc]
theorem X0l (x:Plan):x.Q4f x = true:=X0g.2 ⟨Int.le_refl _,Int.le_refl _,Int.le_refl _⟩
theorem Z2o {x y z:Plan} (h:x.Q4f y = true) (k:y.Q4f z = true):x.Q4f z = true:=by
 rw [X0g] at *; omega
theorem Y4u {out:List Plan} {x y:Plan} (h:y ∈ Q1u out x):y ∈ out ∨ y = x:=by
 unfold Q1u at h
 split at h
 . exact .inl h
 . rcases List.mem_append.1 h with r | r
   . exact .inl (List.mem_filter.1 r).1
   . exact .inr (List.mem_singleton.1 r)
theorem Y0x {out:List Plan} {x y:Plan} (h:y ∈ out ∨ y = x):∃ o ∈ Q1u out x,o.Q4f y = true:=by
 unfold Q1u
 split
 . rename_i he
   rcases h with h | h
   . exact ⟨y,h,X0l y⟩
   . subst h
     obtain ⟨o,ho,hb⟩:=List.any_eq_true.1 he;exact ⟨o,ho,hb⟩
 . rcases h with h | h
   . by_cases hb:x.Q4f y = true
     . exact ⟨x,List.mem_append.2 (.inr (List.mem_singleton.2 rfl)),hb⟩
     . exact ⟨y,List.mem_append.2 (.inl (List.mem_filter.2 ⟨h,by simp [hb]⟩)),X0l y⟩
   . subst h; exact ⟨y,List.mem_append.2 (.inr (List.mem_singleton.2 rfl)),X0l y⟩
theorem X3q:∀ {l out:List Plan} {y:Plan},y ∈ l.foldl Q1u out -> y ∈ out ∨ y ∈ l
 | [],_,_,h=>.inl h
 | x :: l,out,y,h=>by
   rcases X3q (l:=l) h with r | r
   . rcases Y4u r with r | r
     . exact .inl r
     . exact .inr (r ▸ List.mem_cons_self)
   . exact .inr (List.mem_cons_of_mem _ r)
theorem Q6l:∀ {l out:List Plan} {y:Plan},y ∈ out ∨ y ∈ l -> ∃ o ∈ l.foldl Q1u out,o.Q4f y = true
 | [],_,y,h=>⟨y,h.elim id (fun h=>absurd h (by simp)),X0l y⟩
 | x :: l,out,y,h=>by
   have h':(y ∈ out ∨ y = x) ∨ y ∈ l:=by
    rcases h with h | h
    . exact .inl (.inl h)
    . rcases List.mem_cons.1 h with h | h
      . exact .inl (.inr h)
      . exact .inr h
   rcases h' with h' | h'
   . obtain ⟨o,ho,hb⟩:=Y0x h'
     obtain ⟨o',ho',hb'⟩:=Q6l (l:=l) (out:=Q1u out x) (.inl ho);exact ⟨o',ho',Z2o hb' hb⟩
   . exact Q6l (l:=l) (out:=Q1u out x) (.inr h')
theorem Y0z {l:List Plan} {y:Plan} (h:y ∈ X8r l):y ∈ l:=(X3q h).elim (fun h=>absurd h (by simp)) id
theorem X1n {l:List Plan} {y:Plan} (h:y ∈ l):∃ o ∈ X8r l,o.Q4f y = true:=Q6l (.inr h)
theorem X6f {a b:List Plan} {y:Plan} (h:y ∈ together a b):∃ x ∈ a,∃ z ∈ b,y = both x z:=by
 obtain ⟨x,hx,hy⟩:=List.mem_flatMap.1 (Y0z h);obtain ⟨z,hz,e⟩:=List.mem_map.1 hy;exact ⟨x,hx,z,hz,e.symm⟩
theorem Y1g {a b:List Plan} {x z:Plan} (hx:x ∈ a) (hz:z ∈ b):∃ o ∈ together a b,o.Q4f (both x z) = true :=
 X1n (List.mem_flatMap.2 ⟨x,hx,List.mem_map.2 ⟨z,hz,rfl⟩⟩)
def Digits (l:List Int):Prop:=∀ x ∈ l,0 <= x /\ x <= 9
theorem Z4x:∀ {a b:List Int},Digits a -> Digits b -> Q6k a = Q6k b -> a = b:=by
 have go:∀ {a b:List Int},Digits a -> Digits b -> (a.map fun n=>UInt8.ofNat n.toNat) = (b.map fun n=>UInt8.ofNat n.toNat) -> a = b:=by
  intro a
  induction a with
  | nil=>intro b _ _ h; cases b with | nil=>rfl | cons y b=>simp at h
  | cons x a ih =>
    intro b ha hb h;cases b with
    | nil=>simp at h
    | cons y b =>
      simp only [List.map_cons,List.cons.injEq] at h;have h1:=congrArg UInt8.toNat h.1;simp only [UInt8.toNat_ofNat'] at h1;obtain ⟨x0,x1⟩:=ha x List.mem_cons_self;obtain ⟨y0,y1⟩:=hb y List.mem_cons_self;rw [ih (fun z hz=>ha z (List.mem_cons_of_mem _ hz)) (fun z hz=>hb z (List.mem_cons_of_mem _ hz)) h.2]
      congr 1
      omega
 intro a b ha hb h;have:=congrArg (fun k:ByteArray=>k.data.toList) h;exact go ha hb (by simpa [Q6k] using this)
theorem Q5i {l:List Int} (h:Digits l) (n:Nat):Digits (l.take n):=fun x hx=>h x (List.mem_of_mem_take hx)
structure Fine (s:Q0b):Prop where
 shaped:s.Shaped
 digits:∀ k,k < s.members.length -> Digits (Q0d s.members k)
def mv1 (s:Q0b) (t:Nat) (c:Bool) (x:Runner):Runner:=⟨x.member,((Q1k s x.member).stepT t x.level c).2,x.dry && decide (((Q1k s x.member).stepT t x.level c).1 <= s.limit)⟩
theorem Y5x (s:Q0b) (t:Nat) (c:Bool) (l:List Runner):moved s t c l = l.map (mv1 s t c):=rfl
def hs (s:Q0b) (i u:Nat):List Int:=(Q0d s.members i).take u
def J7o (s:Q0b) (f:List Int -> Bool):Nat -> Runner -> Bool
 | 0,x=>x.dry
 | k + 1,x=>J7o s f k (mv1 s (s.ships.length - (k + 1)) (f (hs s x.member (s.ships.length - k))) x)
def J7g (s:Q0b) (f:List Int -> Bool):Nat -> Nat -> Int
 | 0,_=>0
 | k + 1,i=>(if f (hs s i (s.ships.length - k)) then 1 else 0) + J7g s f k i
def J7j (s:Q0b) (f:List Int -> Bool):Nat -> Nat -> Int
 | 0,_=>0
 | k + 1,i=>(if f (hs s i (s.ships.length - k)) then ix s.ships (s.ships.length - (k + 1)) else 0) + J7j s f k i
def Z6w (s:Q0b) (f:List Int -> Bool) (k:Nat) (l:List Runner):Int:=(l.map fun x=>if J7o s f k x then Q0h s.members x.member else 0).sum
def Z1j (s:Q0b) (f:List Int -> Bool) (k:Nat) (l:List Runner):Int:=(l.map fun x=>Q0h s.members x.member * J7g s f k x.member).sum
def Z3o (s:Q0b) (f:List Int -> Bool) (k:Nat) (l:List Runner):Int:=(l.map fun x=>Q0h s.members x.member * J7j s f k x.member).sum
def Agr (s:Q0b) (f:List Int -> Bool) (cl:List ByteArray) (t:Nat) (l:List Runner):Prop:=∀ r ∈ l,∀ u,t < u -> u <= s.ships.length -> f (hs s r.member u) = cl.contains (Q6k (hs s r.member u))
def Keys (s:Q0b) (cl:List ByteArray) (t:Nat) (l:List Runner):Prop:=∀ b ∈ cl,∃ r ∈ l,∃ u,t < u /\ u <= s.ships.length /\ b = Q6k (hs s r.member u)
def Known (s:Q0b) (l:List Runner):Prop:=∀ r ∈ l,r.member < s.members.length
end Go.Tw
namespace Go.Tw
variable {s:Q0b}
theorem Q1p {x a b:Int}:Q0g x a b = 0 ↔ a <= x /\ x <= b:=by unfold Q0g; split <;> simp <;> omega
theorem Q3n {l:List Int} {m:Int}:Q0r l m = 0 ↔ ∀ x ∈ l,0 <= x /\ x <= m:=by
 unfold Q0r;rw [Q1r]
 constructor
 . intro h x hx; exact Q1p.1 (h _ (List.mem_map.2 ⟨x,hx,rfl⟩))
 . intro h y hy
   obtain ⟨x,hx,rfl⟩:=List.mem_map.1 hy;exact Q1p.2 (h x hx)
structure Q0m (s:Q0b):Prop extends Fine s where
 limit:0 <= s.limit /\ s.limit <= 1024
 tides:0 < s.ships.length /\ s.ships.length <= 6
 delays:∀ x ∈ s.ships,0 <= x /\ x <= 1000
 some:0 < s.members.length /\ s.members.length <= 8
 names:∀ k,k < s.members.length -> nameB (Q1d s.members k) = true
 twice:∀ k,k < s.members.length -> ∀ i,i < k -> Q1d s.members i ≠ Q1d s.members k
 weights:∀ k,k < s.members.length -> 1 <= Q0h s.members k /\ Q0h s.members k <= 1000
 outside:∀ k,k < s.members.length -> ∀ x ∈ Q0n s.members k,0 <= x /\ x <= 1024
 inflow:∀ k,k < s.members.length -> ∀ x ∈ Q0s s.members k,0 <= x /\ x <= 1024
theorem Q4h {k:Nat} (h:s.Q2w k = 0):nameB (Q1d s.members k) = true /\ Q3d s.members k = false /\ (1 <= Q0h s.members k /\ Q0h s.members k <= 1000) /\
    ((Q0d s.members k).length = s.ships.length /\ (Q0n s.members k).length = s.ships.length /\ (Q0s s.members k).length = s.ships.length) /\
    Digits (Q0d s.members k) /\ (∀ x ∈ Q0n s.members k,0 <= x /\ x <= 1024) /\ (∀ x ∈ Q0s s.members k,0 <= x /\ x <= 1024):=by
 unfold Q0b.Q2w at h
 by_cases h1:nameB (Q1d s.members k) = false
 . rw [if_pos h1] at h; exact absurd h (by decide)
 . rw [if_neg h1] at h
   by_cases h2:Q3d s.members k = true
   . rw [if_pos h2] at h; exact absurd h (by decide)
   . rw [if_neg h2] at h
     by_cases h3:Q0g (Q0h s.members k) 1 1000 ≠ 0
     . rw [if_pos h3] at h; exact absurd h (by decide)
     . rw [if_neg h3] at h
       by_cases h4:(Q0d s.members k).length = s.ships.length /\ (Q0n s.members k).length = s.ships.length /\ (Q0s s.members k).length = s.ships.length
       . rw [if_neg (fun hn=>hn h4),Q1r] at h
         refine ⟨by simpa using h1,by simpa using h2,Q1p.1 (Decidable.not_not.1 h3),h4,Q3n.1 (h _ (by simp)),Q3n.1 (h _ (by simp)),Q3n.1 (h _ (by simp))⟩
       . rw [if_pos h4] at h; exact absurd h (by decide)
theorem Q0m.of (h:s.err = 0):Q0m s:=by
 unfold Q0b.err at h
 by_cases h1:Q0g s.limit 0 1024 ≠ 0
 . rw [if_pos h1] at h; exact absurd h (by decide)
 rw [if_neg h1] at h
 by_cases h2:s.ships.length = 0
 . rw [if_pos h2] at h; exact absurd h (by decide)
 rw [if_neg h2] at h
 by_cases h3:6 < s.ships.length
 . rw [if_pos h3] at h; exact absurd h (by decide)
 rw [if_neg h3] at h
 by_cases h4:Q0r s.ships 1000 ≠ 0
 . rw [if_pos h4] at h; exact absurd h (by decide)
 rw [if_neg h4] at h
 by_cases h5:s.members.length = 0
 . rw [if_pos h5] at h; exact absurd h (by decide)
 rw [if_neg h5] at h
 by_cases h6:8 < s.members.length
 . rw [if_pos h6] at h; exact absurd h (by decide)
 rw [if_neg h6,Q1r] at h;have hm:∀ k,k < s.members.length -> s.Q2w k = 0:=fun k hk=>h _ (List.mem_map.2 ⟨k,List.mem_range.2 hk,rfl⟩);have ht:∀ k,k < s.members.length -> ∀ i,i < k -> Q1d s.members i ≠ Q1d s.members k:=fun k hk i hi e=>by
  have:=(Q4h (hm k hk)).2.1;unfold Q3d at this;rw [List.any_eq_false] at this;exact this i (List.mem_range.2 hi) (str_eq e)
 exact ⟨⟨fun k hk=>(Q4h (hm k hk)).2.2.2.1,fun k hk=>(Q4h (hm k hk)).2.2.2.2.1⟩,Q1p.1 (Decidable.not_not.1 h1),⟨by omega,by omega⟩,Q3n.1 (Decidable.not_not.1 h4),⟨by omega,by omega⟩,fun k hk=>(Q4h (hm k hk)).1,ht,fun k hk=>(Q4h (hm k hk)).2.2.1,fun k hk=>(Q4h (hm k hk)).2.2.2.2.2.1,fun k hk=>(Q4h (hm k hk)).2.2.2.2.2.2⟩
end Go.Tw
namespace Go.Proofs
open Go.RowKit Go.Tw Go.Flow
theorem X1s (x:Int) (l:List Int) (m:Int):Q0r (x :: l) m = if Q0g x 0 m = 0 then Q0r l m else Q0g x 0 m:=rfl
theorem Q7a (w:World) (v:Value) (l:List Int) (m:Int) (hv:Q0e w v l) :
    Calls Tryz.prog 38 #[v,.int .i64 m] w fun e w'=>e = .returned (.int .i64 (Q0r l m)) /\ Ext w w':=by
 obtain ⟨A,cap,rfl,hl,hcap,hc⟩:=hv.opened;clear hv;go_enter Tryz.func38,Tryz.ntmps38;go_wp2
 go_loopw [5] (fun i wr=>∃ k:Nat,k <= l.length /\ i = .int .i64 k /\ Q0r (l.drop k) m = Q0r l m /\ Ext w wr) (fun i _=>l.length - (intOf i).toNat)
 case atStart=>exact ⟨0,Nat.zero_le _,rfl,rfl,Ext.refl _⟩
 case round =>
  obtain ⟨k,hk,rfl,hr,hx⟩:=hrel;have HR:=Lib.hid hr; clear hr
  by_cases hlt:k < l.length
  . obtain ⟨b,off,rfl,hcell⟩:=hc k hlt
    replace hcell:=hx.cell hcell;have HD:=Lib.hid (Q3q hlt);clear hc
    by_cases hz:Q0g (ix l k) 0 m = 0
    . have hz1:(Q0g (ix l k) 0 m != 0) = false:=by simp [hz]
      have HZ:=Lib.hid hz; clear hz;go_wp2_with (go_at_call 37; refine (Q2h _ (ix l k) 0 m).mono ?_; rintro e w' ⟨rfl,rfl⟩);go_roundw
      case rel=>exact ⟨k + 1,by omega,by go_num,by rw [<- HR.out,HD.out,X1s,if_pos HZ.out],hx⟩
      case measure=>simp [intOf]; omega
    . have hz1:(Q0g (ix l k) 0 m != 0) = true:=by simp [hz]
      have HZ:=Lib.hid hz; clear hz;go_wp2_with (go_at_call 37; refine (Q2h _ (ix l k) 0 m).mono ?_; rintro e w' ⟨rfl,rfl⟩);go_ret;exact ⟨Q1c (by rw [<- HR.out,HD.out,X1s,if_neg HZ.out]),hx⟩
  . clear hc
    go_wp2;go_ret;exact ⟨Q1c (by rw [<- HR.out,List.drop_eq_nil_of_le (by omega)]; rfl),hx⟩
end Go.Proofs
namespace Go.Proofs
open Go.RowKit Go.Tw Go.Flow
theorem Y8z {α:Type} [DecidableEq α] {x y:α} {l m:List α} (h:x = y):decide (x :: l = y :: m) = decide (l = m):=by
 subst h; simp
theorem Y7y {α:Type} [DecidableEq α] {x y:α} {l m:List α} (h:¬ x = y):decide (x :: l = y :: m) = false:=by
 simp [h]
theorem Q5r (w:World) (u v:Value) (a b:List Int) (hu:Q0e w u a) (hv:Q0e w v b) :
    Calls Tryz.prog 41 #[u,v] w fun e w'=>e = .returned (.bool (decide (a = b))) /\ Ext w w':=by
 obtain ⟨A,capa,rfl,hla,hcapa,hca⟩:=hu.opened;obtain ⟨B,capb,rfl,hlb,hcapb,hcb⟩:=hv.opened;clear hu hv;go_enter Tryz.func41,Tryz.ntmps41
 by_cases hl:a.length = b.length
 . have hne:((a.length:Int) != (b.length:Int)) = false:=by simp [hl]
   go_wp2
   go_loopw [5] (fun i wr=>∃ k:Nat,k <= a.length /\ i = .int .i64 k /\ decide (a.drop k = b.drop k) = decide (a = b) /\ Ext w wr) (fun i _=>a.length - (intOf i).toNat)
   case atStart=>exact ⟨0,Nat.zero_le _,rfl,rfl,Ext.refl _⟩
   case round =>
    obtain ⟨k,hk,rfl,hr,hx⟩:=hrel;have HR:=Lib.hid hr; clear hr
    by_cases hlt:k < a.length
    . have hlt2:k < b.length:=by omega
      obtain ⟨b1,off1,rfl,hc1⟩:=hca k hlt;obtain ⟨b2,off2,rfl,hc2⟩:=hcb k hlt2;replace hc1:=hx.cell hc1;replace hc2:=hx.cell hc2;have HD1:=Lib.hid (Q3q hlt);have HD2:=Lib.hid (Q3q hlt2);clear hca hcb
      by_cases h0:ix a k = ix b k
      . have hx1:(ix a k != ix b k) = false:=by simp [h0]
        have H0:=Lib.hid h0; clear h0;go_wp2
        go_quiet (fail)
        all_goals go_wp2
        go_roundw
        case rel=>exact ⟨k + 1,by omega,by go_num,by rw [<- HR.out,HD1.out,HD2.out,Y8z H0.out],hx.drewN _⟩
        case measure=>simp [intOf]; omega
      . have hx1:(ix a k != ix b k) = true:=by simp [h0]
        have H0:=Lib.hid h0; clear h0;go_wp2
        go_quiet (fail)
        all_goals go_wp2
        go_ret;exact ⟨Q0z (by rw [<- HR.out,HD1.out,HD2.out,Y7y H0.out]),hx.drewN _⟩
    . clear hca hcb
      go_wp2;go_ret;exact ⟨Q0z (by rw [<- HR.out,List.drop_eq_nil_of_le (by omega),List.drop_eq_nil_of_le (by omega)]; rfl),hx⟩
 . have hne:((a.length:Int) != (b.length:Int)) = true:=by simp; omega
   have HL:Hid (decide (a = b) = false):=Lib.hid (decide_eq_false (fun h=>hl (by rw [h])))
   clear hl hca hcb;go_wp2;go_ret;exact ⟨Q0z (by rw [HL.out]),Ext.refl _⟩
theorem J5q {l:List Bool} {k:Nat} (h:k < l.length):l.drop k = bx l k :: l.drop (k + 1):=by
 unfold bx; rw [show l.getD k false = l[k] by simp [h]]; exact List.drop_eq_getElem_cons h
end Go.Proofs
namespace Go.Proofs
open Go.RowKit Go.Tw Go.Flow
theorem countB_le (l:List Bool):0 <= countB l /\ countB l <= l.length:=by
 unfold countB; have:=List.countP_le_length (p:=id) (l:=l); omega
end Go.Proofs
namespace Go.Proofs
open Go.RowKit Go.Tw Go.Flow
def Y4o (s:Q0b) (l:List Int) (k:Nat):Int:=Q6b s (l.take k)
end Go.Proofs
namespace Go.Flow
open Go.RowKit Go.Tw
theorem J1s {ops:Array Oper} {b:Act} {o:Oper} {j:Nat} {want x:Bool} {d:Tmp} (hg:o.guard = some (j,want)) (hd:(ops[j]?).bind (·.dst) = some d) (hsz:d < b.tmps.size) (hv:b.eval (.tmp d) = .bool x):Region.wanted o (yielded ops b.tmps) = (x == want):=by
 have h2:b.tmps[d]? = some (.bool x):=by
  have:b.tmps.getD d undef = .bool x:=hv;rw [Array.getD_eq_getD_getElem?,Array.getElem?_eq_getElem hsz] at this;rw [Array.getElem?_eq_getElem hsz];exact congrArg some this
 unfold Region.wanted;rw [hg];show (yielded ops b.tmps j == some want) = _;have:yielded ops b.tmps j = some x:=by
  unfold yielded;rw [hd];show (match b.tmps[d]? with | some (.bool b)=>some b | _=>none) = _
  rw [h2]
 rw [this];cases x <;> cases want <;> rfl
theorem Q0l {ops:Array Oper} {b:Act} {o:Oper} {j:Nat} {want:Bool} {d:Tmp} {T F:Prop} (hg:o.guard = some (j,want)) (hd:(ops[j]?).bind (·.dst) = some d) (hsz:d < b.tmps.size) (hv:b.eval (.tmp d) = .bool want) (h:T):Guarded ops o b T F:=by
 have:=J1s hg hd hsz hv;unfold Guarded;rw [hg];exact .inl ⟨by rw [this]; cases want <;> rfl,h⟩
end Go.Flow
namespace Go.Proofs
open Go.RowKit Go.Tw Go.Flow
attribute [local go_sem] Oper.semAt_some
theorem Q2l {w:World} {T:TypeId} {l:List Int} (hl:l.length <= 1000):Q0e (w.alloc (.cells (l.map (Value.int .i64)).toArray T)) (.slice (some ⟨w.heap.size,0,none⟩) l.length l.length) l:=by
 refine ⟨fun j=>.int .i64 (l.getD j 0),⟨some ⟨w.heap.size,0,none⟩,l.length,rfl,by omega,Nat.le_refl _,fun j hj=>⟨w.heap.size,0,rfl,?_⟩⟩,fun j hj=>?_⟩
 . have hj':j < l.length:=by omega
   rw [Y5o]; simp [hj']
 . simp [hj]
def Q8k (l:List Mem) (i m:Nat):Bool:=(List.range m).any fun k=>Q1d l k == Q1d l i
theorem Y6f (l:List Mem) (i m:Nat):Q8k l i (m + 1) = (Q8k l i m || Q1d l m == Q1d l i):=by
 unfold Q8k;rw [List.range_succ,List.any_append]; simp
theorem Y8q {l:List Mem} {i m:Nat} (hm:m < i) (h:(Q1d l m == Q1d l i) = true):Q3d l i = true:=by
 unfold Q3d;rw [List.any_eq_true];exact ⟨m,List.mem_range.2 hm,h⟩
theorem X8y {s:Q0b} {i:Nat} (h:nameB (Q1d s.members i) = false):s.Q2w i = 8:=if_pos h
theorem X6s {s:Q0b} {i:Nat} (h:nameB (Q1d s.members i) = true) (h2:Q3d s.members i = true):s.Q2w i = 9:=(if_neg (by rw [h]; simp)).trans (if_pos h2)
theorem X2f {s:Q0b} {i:Nat} (h:nameB (Q1d s.members i) = true) (h2:Q3d s.members i = false) (h3:Q0g (Q0h s.members i) 1 1000 ≠ 0):s.Q2w i = 3:=(if_neg (by rw [h]; simp)).trans ((if_neg (by rw [h2]; simp)).trans (if_pos h3))
theorem X5t {s:Q0b} {i:Nat} (h:nameB (Q1d s.members i) = true) (h2:Q3d s.members i = false) (h3:Q0g (Q0h s.members i) 1 1000 = 0) (h4:¬ ((Q0d s.members i).length = s.ships.length /\ (Q0n s.members i).length = s.ships.length /\ (Q0s s.members i).length = s.ships.length)):s.Q2w i = 2 :=
 (if_neg (by rw [h]; simp)).trans ((if_neg (by rw [h2]; simp)).trans ((if_neg (fun hn=>hn h3)).trans (if_pos h4)))
theorem X9y {s:Q0b} {i:Nat} (h:nameB (Q1d s.members i) = true) (h2:Q3d s.members i = false) (h3:Q0g (Q0h s.members i) 1 1000 = 0) (h4:(Q0d s.members i).length = s.ships.length /\ (Q0n s.members i).length = s.ships.length /\ (Q0s s.members i).length = s.ships.length):s.Q2w i = Q0k [Q0r (Q0d s.members i) 9,Q0r (Q0n s.members i) 1024,Q0r (Q0s s.members i) 1024] :=
 (if_neg (by rw [h]; simp)).trans ((if_neg (by rw [h2]; simp)).trans ((if_neg (fun hn=>hn h3)).trans (if_neg (fun hn=>hn h4))))
theorem Q6p {x a b:Int} (h:Q0g x a b ≠ 0):Q0g x a b = 3:=by unfold Q0g at h ⊢; split at h <;> simp_all
theorem X6u (w:World) (v:Value) (s:Q0b) (i:Nat) (hv:Q0p w v s) (hi:i < s.members.length) :
    Calls Tryz.prog 39 #[v,.int .i64 (i:Int)] w fun e w'=>e = .returned (.int .i64 (s.Q2w i)) /\ Ext w w':=by
 obtain ⟨a,b,rfl,h2⟩:=hv;obtain ⟨A,capa,rfl,hla,-,-⟩:=h2.ships.opened;obtain ⟨B,capb,rfl,hlb,-,hc⟩:=h2.members.opened;obtain ⟨bm,off,x,y,z,rfl,hbm,e0,e1,e2,e3,e4,hx,hy,hz,hsh⟩:=hc i hi;obtain ⟨X,capx,rfl,hlx,-,-⟩:=hx.opened;obtain ⟨Y,capy,rfl,hly,-,-⟩:=hy.opened;obtain ⟨Z,capz,rfl,hlz,-,-⟩:=hz.opened;have HCC:Hid (∀ k,k < s.members.length -> w.cell? ⟨bm,off + k * 5,none⟩ = some (.string (Q1d s.members k))):=Lib.hid (fun k hk=>by
  obtain ⟨b',off',_,_,_,hA,_,h0,_⟩:=hc k hk;cases hA;exact h0)
 have hiI:(i:Int) < s.members.length:=by omega
 have HSH:=Lib.hid hsh;have HXI:=Lib.hid hx;have HYI:=Lib.hid hy;have HZI:=Lib.hid hz;clear hc hsh h2 hx hy hz;have HMN:=Lib.hid (X8y (s:=s) (i:=i));have HMT:=Lib.hid (X6s (s:=s) (i:=i));have HMW:=Lib.hid (X2f (s:=s) (i:=i));have HMS:=Lib.hid (X5t (s:=s) (i:=i));have HMR:=Lib.hid (X9y (s:=s) (i:=i));have HYES:Hid (∀ m,m < i -> (Q1d s.members m == Q1d s.members i) = true -> Q3d s.members i = true):=Lib.hid (fun m hm h=>Y8q hm h);have HSUC:Hid (∀ m,Q8k s.members i (m + 1) = (Q8k s.members i m || Q1d s.members m == Q1d s.members i)):=Lib.hid (fun m=>Y6f _ _ m)
 have HEND:Hid (Q8k s.members i i = Q3d s.members i):=Lib.hid rfl;obtain ⟨nm,hnm⟩:∃ x,Q1d s.members i = x:=⟨_,rfl⟩;obtain ⟨wt,hwt⟩:∃ x,Q0h s.members i = x:=⟨_,rfl⟩;obtain ⟨lc,hlc⟩:∃ x,Q0d s.members i = x:=⟨_,rfl⟩;obtain ⟨lo,hlo⟩:∃ x,Q0n s.members i = x:=⟨_,rfl⟩;obtain ⟨li,hli⟩:∃ x,Q0s s.members i = x:=⟨_,rfl⟩;have HCI:=Lib.hid (HCC.out i hi);rw [hnm] at e0 HSH HMN HMT HMW HMS HMR HYES HSUC HCI;rw [hwt] at e1 HMW HMS HMR;rw [hlc] at e2 hlx HXI HMS HMR;rw [hlo] at e3 hly HYI HMS HMR;rw [hli] at e4 hlz HZI HMS HMR;clear hnm hwt hlc hlo hli;go_enter Tryz.func39,Tryz.ntmps39;go_wp2_with fail;change Calls _ _ _ ((w.alloc (.cells #[.int .i64 s.limit,.slice A s.ships.length capa,.slice (some ⟨bm,off,none⟩) s.members.length capb] 55)).alloc (.cells #[.string nm,.int .i64 wt,.slice X lc.length capx,.slice Y lo.length capy,.slice Z li.length capz] 77)) _;obtain ⟨W,hWW,k0,k1,HXW,eW⟩:=Q6u w 55 #[.int .i64 s.limit,.slice A s.ships.length capa,.slice (some ⟨bm,off,none⟩) s.members.length capb] 77 #[.string nm,.int .i64 wt,.slice X lc.length capx,.slice Y lo.length capy,.slice Z li.length capz];rw [hWW];clear hWW;have K0:=Lib.hid k0;have K1:=Lib.hid k1;clear k0 k1 e0 e1 e2 e3 e4;refine (Z5p _ _ HSH.out).mono ?_;rintro e w1 ⟨rfl,rfl⟩;cases hnb:nameB nm with
 | false =>
   have HR:=Lib.hid (HMN.out hnb);clear hnb;go_wp2;go_ret;exact ⟨Q1c HR.out.symm,HXW.out⟩
 | true =>
   have HNB:=Lib.hid hnb;clear hnb;have k0:=K0.out;have c0_2:=k0.cell 2;have c1_0:=K1.out.cell 0;simp only [Go.Tw.gA,Go.Tw.gB,Go.Tw.gC] at c0_2 c1_0;clear k0;go_wp2_with fail
   go_loopw [6] (fun j wr=>∃ m:Nat,m <= i /\ j = .int .i64 m /\ Q8k s.members i m = false /\ Ext W wr) (fun j _=>i - (intOf j).toNat)
   case atStart=>exact ⟨0,Nat.zero_le _,rfl,rfl,Ext.refl _⟩
   case round =>
    obtain ⟨m,hm,rfl,htw,hxr⟩:=hrel;have HTW:=Lib.hid htw;have HXR:=Lib.hid hxr;replace c0_2:=hxr.cell c0_2;replace c1_0:=hxr.cell c1_0;clear htw
    by_cases hmi:m < i
    . have hck:=(HXW.out.trans hxr).cell (HCC.out m (by omega))
      have hy1:=HYES.out m hmi;have hy2:=HSUC.out m;obtain ⟨x,hx⟩:∃ x,Q1d s.members m = x:=⟨_,rfl⟩;rw [hx] at hck hy1 hy2;obtain ⟨q,hq⟩:∃ q,(x.toList == nm.toList) = q:=⟨_,rfl⟩;have HQ:Hid ((x == nm) = q):=Lib.hid (by rw [Go.beq_toListBytes]; exact hq)
      rw [HQ.out] at hy1 hy2;have HY1:=Lib.hid hy1;have HY2:=Lib.hid hy2;have hmI:(m:Int) < (s.members.length:Int):=by omega
      have hmiI:(m:Int) < (i:Int):=by omega
      clear hx hy1 hy2 hxr;cases q with
      | true =>
        go_light
        go_wp2
        go_quiet (fail)
        all_goals go_wp2
        go_ret;exact ⟨Q1c (HMT.out HNB.out (HY1.out (by trivial))).symm,HXW.out.trans (HXR.out.drewN _)⟩
      | false =>
        go_light
        go_wp2
        go_quiet (fail)
        all_goals go_wp2
        go_roundw
        case rel=>exact ⟨m + 1,by omega,by go_num,by rw [HY2.out,HTW.out]; rfl,HXR.out.drewN _⟩
        case measure=>simp [intOf]; omega
    . have hme:m = i:=by omega
      subst hme;have HTF:Hid (Q3d s.members m = false):=Lib.hid (HTW.out);have hmiI:¬ (m:Int) < (m:Int):=by omega
      have c0_1:=hxr.cell (K0.out.cell 1);have k1:=K1.out.ext hxr;have c1_1:=k1.cell 1;have c1_2:=k1.cell 2;have c1_3:=k1.cell 3;have c1_4:=k1.cell 4;simp only [Go.Tw.gA,Go.Tw.gB,Go.Tw.gC] at c0_1 c1_1 c1_2 c1_3 c1_4;have HXX:=Lib.hid (HXW.out.trans hxr);have HKR:=Lib.hid k1;clear k1 hxr hmi
      by_cases hw:Q0g wt 1 1000 = 0
      . have hwn:(Q0g wt 1 1000 != 0) = false:=by simp [hw]
        have HWZ:=Lib.hid hw;clear hw
        by_cases h1:lc.length = s.ships.length
        . have h1b:((lc.length:Int) != (s.ships.length:Int)) = false:=by rw [h1]; simp
          by_cases h2:lo.length = s.ships.length
          . have h2b:((lo.length:Int) != (s.ships.length:Int)) = false:=by rw [h2]; simp
            by_cases h3:li.length = s.ships.length
            . have h3b:((li.length:Int) != (s.ships.length:Int)) = false:=by rw [h3]; simp
              have hrest:=HMR.out HNB.out HTF.out HWZ.out ⟨h1,h2,h3⟩;obtain ⟨E,hE⟩:∃ E,Q0k [Q0r lc 9,Q0r lo 1024,Q0r li 1024] = E:=⟨_,rfl⟩;rw [hE] at hrest;have HE:Hid (∀ (w':World) (u:Value),Q0e w' u [Q0r lc 9,Q0r lo 1024,Q0r li 1024] -> Calls Tryz.prog 89 #[u] w' fun e w''=>e = .returned (.int .i64 E) /\ w' = w''):=Lib.hid (by intro w' u h; rw [<- hE]; exact Z9t _ _ _ h)
              have HRE:=Lib.hid hrest;have hdr:=(Ext.refl wr).drew;clear h1 h2 h3 hE hrest;go_wp2_with (go_at_call 37; refine (Q2h _ wt 1 1000).mono ?_; rintro e w' ⟨rfl,rfl⟩);refine Flow.Q1q [.p,.w,.w,.p,.w,.w,.p,.w,.w,.w,.w,.p] [0,1,2,3,4,5,6,7,8,9,10,11] [[],[0],[1],[],[3],[2,4],[],[6],[5,7],[2,5,8],[8,9],[0,1,2,3,4,5,6,7,8,9,10]]
               [.c 0 (.pointer (some ⟨w.heap.size + 1,2,none⟩)),.c 1 (.slice X lc.length capx),.c 2 (.int .i64 (Q0r lc 9)),.c 3 (.pointer (some ⟨w.heap.size + 1,3,none⟩)),.c 4 (.slice Y lo.length capy),.c 5 (.int .i64 (Q0r lo 1024)),.c 6 (.pointer (some ⟨w.heap.size + 1,4,none⟩)),.c 7 (.slice Z li.length capz),.c 8 (.int .i64 (Q0r li 1024)),⟨fun v wz=>Q0e wz (v 9) [Q0r lc 9,Q0r lo 1024,Q0r li 1024],fun _ _ _ hx h=>h.ext hx⟩,.c 10 (.int .i64 E),.c 11 (.int .i64 E)]
               (by kernel_rfl) rfl (by kernel_rfl) ⟨?g0,?g1,?g2,?g3,?g4,?g5,?g6,?g7,?g8,?g9,?g10,?g11,trivial⟩ ?post
              case g0 | g3 | g6=>
               intro v w1 hx;intro bb hbb;subst hbb;refine ⟨_,fun w=>?_,rfl⟩;go_simp
              case g1 | g4 | g7=>
               intro v w1 hx;(repeat intro (zq:v _ = _));intro bb hbb;subst hbb;have n0:w1.cell? ⟨w.heap.size + 1,2,none⟩ = some (.slice X lc.length capx):=(HKR.out.ext (hdr.trans hx)).cell 2;have n1:w1.cell? ⟨w.heap.size + 1,3,none⟩ = some (.slice Y lo.length capy):=(HKR.out.ext (hdr.trans hx)).cell 3;have n2:w1.cell? ⟨w.heap.size + 1,4,none⟩ = some (.slice Z li.length capz):=(HKR.out.ext (hdr.trans hx)).cell 4;intro K hK;go_simp;exact hK _ _ (Ext.refl _) rfl
              case g2=>
               intro v w1 hx;(repeat intro (zq:v _ = _));intro bb hbb;subst hbb;intro K hK;go_simp;refine Q0f (Q7a w1 _ lc 9 (HXI.out.ext (HXX.out.trans (hdr.trans hx)))) ?_;rintro e w2 ⟨rfl,hx2⟩;exact ⟨_,rfl,hK _ _ hx2 rfl⟩
              case g5=>
               intro v w1 hx;(repeat intro (zq:v _ = _));intro bb hbb;subst hbb;intro K hK;go_simp;refine Q0f (Q7a w1 _ lo 1024 (HYI.out.ext (HXX.out.trans (hdr.trans hx)))) ?_;rintro e w2 ⟨rfl,hx2⟩;exact ⟨_,rfl,hK _ _ hx2 rfl⟩
              case g8=>
               intro v w1 hx;(repeat intro (zq:v _ = _));intro bb hbb;subst hbb;intro K hK;go_simp;refine Q0f (Q7a w1 _ li 1024 (HZI.out.ext (HXX.out.trans (hdr.trans hx)))) ?_;rintro e w2 ⟨rfl,hx2⟩;exact ⟨_,rfl,hK _ _ hx2 rfl⟩
              case g9=>
               intro v w1 hx;(repeat intro (zq:v _ = _));intro bb hbb;subst hbb;intro K hK;go_simp;exact hK _ _ (Ext.box _ _) (Q2l (l:=[Q0r lc 9,Q0r lo 1024,Q0r li 1024]) (by simp))
              case g10=>
               intro v w1 hx (q8:v 8 = _) (q9:Q0e w1 (v 9) [Q0r lc 9,Q0r lo 1024,Q0r li 1024]);intro bb hbb;subst hbb;intro K hK;go_simp;refine Q0f (HE.out _ _ q9) ?_;rintro e w2 ⟨rfl,rfl⟩;exact ⟨_,rfl,hK _ _ (Ext.refl _) rfl⟩
              case g11=>
               intro v w1 hx (q0:v 0 = _) (q1:v 1 = _) (q2:v 2 = _) (q3:v 3 = _) (q4:v 4 = _) (q5:v 5 = _) (q6:v 6 = _) (q7:v 7 = _) (q8:v 8 = _) _ (q10:v 10 = _);intro bb hbb;subst hbb;refine ⟨_,fun w=>?_,rfl⟩;go_simp
              case post =>
               intro v w1 hx;(iterate 9 intro (zq:v _ = _));intro (q9:Q0e w1 (v 9) [Q0r lc 9,Q0r lo 1024,Q0r li 1024]);(iterate 2 intro (zq:v _ = _));simp only [Flow.All,Flow.acts,Act.put];go_simp;have HX9:=Lib.hid (HXX.out.trans (hdr.trans hx));clear hx hdr q9;(repeat clear zq);go_wp2;go_ret;exact ⟨Q1c HRE.out.symm,HX9.out⟩
            . have h3b:((li.length:Int) != (s.ships.length:Int)) = true:=by rw [bne_iff_ne]; omega
              have HR:=Lib.hid (HMS.out HNB.out HTF.out HWZ.out fun h=>h3 h.2.2);clear h1 h2 h3;go_wp2_with (go_at_call 37; refine (Q2h _ wt 1 1000).mono ?_; rintro e w' ⟨rfl,rfl⟩);go_ret;exact ⟨Q1c HR.out.symm,HXX.out⟩
          . have h2b:((lo.length:Int) != (s.ships.length:Int)) = true:=by rw [bne_iff_ne]; omega
            have HR:=Lib.hid (HMS.out HNB.out HTF.out HWZ.out fun h=>h2 h.2.1);clear h1 h2;go_wp2_with (go_at_call 37; refine (Q2h _ wt 1 1000).mono ?_; rintro e w' ⟨rfl,rfl⟩);go_ret;exact ⟨Q1c HR.out.symm,HXX.out⟩
        . have h1b:((lc.length:Int) != (s.ships.length:Int)) = true:=by rw [bne_iff_ne]; omega
          have HR:=Lib.hid (HMS.out HNB.out HTF.out HWZ.out fun h=>h1 h.1);clear h1;go_wp2_with (go_at_call 37; refine (Q2h _ wt 1 1000).mono ?_; rintro e w' ⟨rfl,rfl⟩);go_ret;exact ⟨Q1c HR.out.symm,HXX.out⟩
      . have hwn:(Q0g wt 1 1000 != 0) = true:=by simp [hw]
        have HR:Hid (s.Q2w m = Q0g wt 1 1000):=Lib.hid (by rw [HMW.out HNB.out HTF.out hw,Q6p hw])
        clear hw;go_wp2_with (go_at_call 37; refine (Q2h _ wt 1 1000).mono ?_; rintro e w' ⟨rfl,rfl⟩);go_ret;exact ⟨Q1c HR.out.symm,HXX.out⟩
end Go.Proofs
namespace Go.Proofs
open Go.RowKit Go.Tw Go.Flow
def Q3t (f:Nat -> Int) (n k:Nat):Int:=Q0k (((List.range n).map f).drop k)
theorem X4n {f:Nat -> Int} {n k:Nat} (hk:k < n):Q3t f n k = if f k = 0 then Q3t f n (k + 1) else f k:=by
 unfold Q3t;rw [List.drop_eq_getElem_cons (by simpa using hk),List.getElem_map,List.getElem_range]; rfl
theorem X6r {f:Nat -> Int} {n k:Nat} (hk:n <= k):Q3t f n k = 0:=by
 unfold Q3t;rw [List.drop_eq_nil_of_le (by simpa using hk)]; rfl
theorem Q9q:∀ {l:List Int} {m:Int},Q0r l m ≠ 0 -> Q0r l m = 3
 | [],m,h=>absurd rfl h
 | x :: l,m,h=>by
   rw [X1s] at h ⊢
   split at h
   . rename_i h0; rw [if_pos h0]; exact Q9q h
   . rename_i h0; rw [if_neg h0]; exact Q6p h0
theorem Y6t {s:Q0b} (h:Q0g s.limit 0 1024 ≠ 0):s.err = 3:=if_pos h
theorem Z5a {s:Q0b} (h:Q0g s.limit 0 1024 = 0) (h1:s.ships.length = 0):s.err = 12:=(if_neg (fun hn=>hn h)).trans (if_pos h1)
theorem Z4z {s:Q0b} (h:Q0g s.limit 0 1024 = 0) (h1:¬ s.ships.length = 0) (h2:6 < s.ships.length):s.err = 5:=(if_neg (fun hn=>hn h)).trans ((if_neg h1).trans (if_pos h2))
theorem Y6x {s:Q0b} (h:Q0g s.limit 0 1024 = 0) (h1:¬ s.ships.length = 0) (h2:¬ 6 < s.ships.length) (h3:Q0r s.ships 1000 ≠ 0):s.err = 3:=(if_neg (fun hn=>hn h)).trans ((if_neg h1).trans ((if_neg h2).trans (if_pos h3)))
theorem Y0t {s:Q0b} (h:Q0g s.limit 0 1024 = 0) (h1:¬ s.ships.length = 0) (h2:¬ 6 < s.ships.length) (h3:Q0r s.ships 1000 = 0) :
    s.err = if s.members.length = 0 then 12 else if 8 < s.members.length then 5 else Q3t s.Q2w s.members.length 0:=(if_neg (fun hn=>hn h)).trans ((if_neg h1).trans ((if_neg h2).trans (if_neg (fun hn=>hn h3))))
theorem X6z (w:World) (v:Value) (s:Q0b) (hv:Q0p w v s) :
    Calls Tryz.prog 14 #[v] w fun e w'=>e = .returned (.int .i64 s.err) /\ Ext w w':=by
 obtain ⟨a,b,rfl,h2⟩:=hv;obtain ⟨A,capa,rfl,hla,-,-⟩:=h2.ships.opened;obtain ⟨B,capb,rfl,hlb,-,-⟩:=h2.members.opened;have H2:=Lib.hid h2;clear h2;have HEL:=Lib.hid (Y6t (s:=s));have HEN:=Lib.hid (Z5a (s:=s));have HEM:=Lib.hid (Z4z (s:=s));have HED:=Lib.hid (Y6x (s:=s));have HES:=Lib.hid (Y0t (s:=s));go_enter Tryz.func14,Tryz.ntmps14;go_wp2_with fail;change Calls _ _ _ (w.alloc (.cells #[.int .i64 s.limit,.slice A s.ships.length capa,.slice B s.members.length capb] 55)) _;obtain ⟨W,hWW,k0,HXW,eW⟩:=Q2y w 55 #[.int .i64 s.limit,.slice A s.ships.length capa,.slice B s.members.length capb];rw [hWW];clear hWW;have K0:=Lib.hid k0;have c0_0:=k0.cell 0;have c0_1:=k0.cell 1;have c0_2:=k0.cell 2;simp only [Go.Tw.gA,Go.Tw.gB,Go.Tw.gC] at c0_0 c0_1 c0_2;clear k0;refine (Q2h _ s.limit 0 1024).mono ?_;rintro e w' ⟨rfl,rfl⟩
 by_cases h0:Q0g s.limit 0 1024 ≠ 0
 . have h0b:(Q0g s.limit 0 1024 != 0) = true:=by simp [h0]
   have HR:Hid (s.err = Q0g s.limit 0 1024):=Lib.hid (by rw [HEL.out h0,Q6p h0])
   clear h0;go_wp2;go_ret;exact ⟨Q1c HR.out.symm,HXW.out⟩
 replace h0:=Decidable.not_not.1 h0;have h0b:(Q0g s.limit 0 1024 != 0) = false:=by simp [h0]
 have HZ0:=Lib.hid h0;clear h0
 by_cases h1:s.ships.length = 0
 . have h1b:((s.ships.length:Int) == 0) = true:=by rw [h1]; rfl
   have HR:=Lib.hid (HEN.out HZ0.out h1);clear h1;go_wp2;go_ret;exact ⟨Q1c HR.out.symm,HXW.out⟩
 have h1b:((s.ships.length:Int) == 0) = false:=by rw [beq_eq_false_iff_ne]; omega
 have HZ1:=Lib.hid h1;clear h1
 by_cases h6:6 < s.ships.length
 . have h6b:(6:Int) < s.ships.length:=by omega
   have HR:=Lib.hid (HEM.out HZ0.out HZ1.out h6);clear h6;go_wp2;go_ret;exact ⟨Q1c HR.out.symm,HXW.out⟩
 have h6b:¬ (6:Int) < s.ships.length:=by omega
 have HZ6:=Lib.hid h6;clear h6;go_wp2_with fail;refine (Q7a _ _ s.ships 1000 (H2.out.ships.ext HXW.out)).mono ?_;rintro e w1 ⟨rfl,hx1⟩;replace c0_0:=hx1.cell c0_0;replace c0_1:=hx1.cell c0_1;replace c0_2:=hx1.cell c0_2;have HX1:=Lib.hid (HXW.out.trans hx1);clear hx1
 by_cases h3:Q0r s.ships 1000 ≠ 0
 . have h3b:(Q0r s.ships 1000 != 0) = true:=by simp [h3]
   have HR:Hid (s.err = Q0r s.ships 1000):=Lib.hid (by rw [HED.out HZ0.out HZ1.out HZ6.out h3,Q9q h3])
   clear h3;go_wp2;go_ret;exact ⟨Q1c HR.out.symm,HX1.out⟩
 replace h3:=Decidable.not_not.1 h3;have h3b:(Q0r s.ships 1000 != 0) = false:=by simp [h3]
 have HREST:=Lib.hid (HES.out HZ0.out HZ1.out HZ6.out h3);clear h3
 by_cases h4:s.members.length = 0
 . have h4b:((s.members.length:Int) == 0) = true:=by rw [h4]; rfl
   have HR:Hid (s.err = 12):=Lib.hid (by rw [HREST.out,if_pos h4])
   clear h4;go_wp2;go_ret;exact ⟨Q1c HR.out.symm,HX1.out⟩
 have h4b:((s.members.length:Int) == 0) = false:=by rw [beq_eq_false_iff_ne]; omega
 by_cases h8:8 < s.members.length
 . have h8b:(8:Int) < s.members.length:=by omega
   have HR:Hid (s.err = 5):=Lib.hid (by rw [HREST.out,if_neg h4,if_pos h8])
   clear h4 h8;go_wp2;go_ret;exact ⟨Q1c HR.out.symm,HX1.out⟩
 have h8b:¬ (8:Int) < s.members.length:=by omega
 have HE:Hid (s.err = Q3t s.Q2w s.members.length 0):=Lib.hid (by rw [HREST.out,if_neg h4,if_neg h8])
 clear h4 h8 HREST HEL HEN HEM HED HES;go_wp2_with fail
 go_loopw [5] (fun i wr=>∃ k:Nat,k <= s.members.length /\ i = .int .i64 k /\ Q3t s.Q2w s.members.length k = Q3t s.Q2w s.members.length 0 /\ Ext w1 wr) (fun i _=>s.members.length - (intOf i).toNat)
 case atStart=>exact ⟨0,Nat.zero_le _,rfl,rfl,Ext.refl _⟩
 case round =>
  obtain ⟨k,hk,rfl,hr,hx⟩:=hrel;have HR:=Lib.hid hr;have HX:=Lib.hid hx;replace c0_0:=hx.cell c0_0;replace c0_1:=hx.cell c0_1;replace c0_2:=hx.cell c0_2;clear hr hx
  by_cases hlt:k < s.members.length
  . have hltI:(k:Int) < (s.members.length:Int):=by omega
    have HST:=Lib.hid (X4n (f:=s.Q2w) hlt);have HCM:=Lib.hid (X6u wr _ s k ⟨_,_,rfl,H2.out.ext (HX1.out.trans HX.out)⟩ hlt)
    go_light
    go_wp2_with fail;refine HCM.out.mono ?_;rintro e w2 ⟨rfl,hx2⟩;have HX2:=Lib.hid (HX.out.trans hx2);clear hx2 c0_0 c0_1 c0_2
    by_cases he:s.Q2w k = 0
    . have heb:(s.Q2w k != 0) = false:=by simp [he]
      have HZ:=Lib.hid he;clear he;go_wp2;go_roundw
      case rel=>exact ⟨k + 1,by omega,by go_num,by rw [<- HR.out,HST.out,if_pos HZ.out],HX2.out⟩
      case measure=>simp [intOf]; omega
    . have heb:(s.Q2w k != 0) = true:=by simp [he]
      have HZ:=Lib.hid he;clear he;go_wp2;go_ret;exact ⟨Q1c (by rw [HE.out,<- HR.out,HST.out,if_neg HZ.out]),HX1.out.trans HX2.out⟩
  . have hltI:¬ (k:Int) < (s.members.length:Int):=by omega
    go_wp2;go_ret;exact ⟨Q1c (by rw [HE.out,<- HR.out,X6r (by omega)]),HX1.out.trans HX.out⟩
end Go.Proofs
namespace Go.Proofs
open Go.RowKit Go.Tw Go.Flow
theorem Tryz.X4d:(Tryz.prog.info? 34).map (fun i=>(i.zero,i.size,i.bytes)) = some (some (.int .i64 0),1,8):=by kernel_rfl
theorem Y8y (f:Int -> Int) (l:List Int) {k:Nat} (hk:k < l.length):(l.map f).take k ++ [f (ix l k)] = (l.map f).take (k + 1):=by
 rw [List.take_succ_eq_append_getElem (by simpa using hk),Q5p hk]
 simp
theorem Q8p (w:World) (v:Value) (l:List Int) (g:Nat) (f:Int -> Int) (hv:Q0e w v l) (hle:l.length <= 4096) (eg:∀ args w,(callFunc g args).run Tryz.prog w = .ok (.enter g args) w)
    (hf:∀ W x,Calls Tryz.prog g #[.int .i64 x] W fun e W'=>e = .returned (.int .i64 (f x)) /\ W = W') :
    Calls Tryz.prog 101 #[v,.func (.func g) #[] #[]] w fun e w'=>∃ x,e = .returned x /\ Q0e w' x (l.map f) /\ Ext w w':=by
 obtain ⟨i0,hi,hz0,hz1,hz2⟩:=info_parts Tryz.X4d;obtain ⟨A,cap,rfl,hl,hcap,hc⟩:=hv.opened;have HC:=Lib.hid hc;have HF:=Lib.hid hf;clear hv hc hf;go_enter Tryz.func101,Tryz.ntmps101;go_wp2
 go_loopw [5,10] (fun o i wr=>∃ (k:Nat),k <= l.length /\ i = .int .i64 k /\ Q0i wr w.heap.size 34 (.int .i64) o ((l.map f).take k) /\ Ext w wr) (fun _ i _=>l.length - (intOf i).toNat)
 case atStart=>exact ⟨0,Nat.zero_le _,rfl,Q0i.nil _ _ _ _,Ext.refl _⟩
 case round =>
  obtain ⟨k,hk,rfl,hown,hx⟩:=hrel;have hlen:((l.map f).take k).length = k:=by rw [List.length_take,List.length_map]; omega
  by_cases hlt:k < l.length
  . obtain ⟨b,off,rfl,hcell⟩:=HC.out k hlt
    have HTK:=Lib.hid (Y8y f l hlt);obtain ⟨s,hs⟩:∃ s,ix l k = s:=⟨_,rfl⟩;have HFS:=Lib.hid (HF.out wr s);rw [hs] at hcell HTK;obtain ⟨y,hy⟩:∃ y,f s = y:=⟨_,rfl⟩;rw [hy] at HFS HTK;replace hcell:=hx.cell hcell;have hll:((l.map f).take k).length <= 4096:=by omega
    clear hs hlen hy;go_wp2_with (first | (refine HFS.out.mono ?_; rintro e w9 ⟨rfl,rfl⟩) | (at_builtin; refine wpList_append_own _ rfl _ _ 178 rfl (w.heap.size) 34 i0 (.int .i64 0) 1 8 Tryz.underlying178 hi hz0 hz1 hz2 rfl (by decide) _ _ _ rfl (World.ownsRow.alloc hown _) ⟨wr.heap.size,0,none⟩ 1 1 [.int .i64 y] rfl rfl ?_ ?_ ?_ ?_ ?_ ?_; exact Q4p _ _ _; (focus (simp [Value.oneCell'])); (focus (unfold maxLen; omega)); (focus omega); (focus (have:=hx.size; simp at this ⊢; omega)); intro v' w1 hown' hgrow _))
    have hx':=Q3b hx hown (Nat.le_refl _) hgrow;go_wp2;go_roundw
    case rel=>exact ⟨k + 1,by omega,by go_num,by rw [<- HTK.out]; exact Q0i.snoc hown',hx'⟩
    case measure=>simp [intOf]; omega
  . have HE:Hid ((l.map f).take k = l.map f):=Lib.hid (by rw [List.take_of_length_le (by rw [List.length_map]; omega)])
    rw [HE.out] at hown;have HOWN:=Lib.hid hown;clear hown hlen;go_wp2;go_ret;exact ⟨_,rfl,HOWN.out.ints (by simp; omega),hx⟩
theorem Q9e (w:World) (v:Value) (l:List Int) (hv:Q0e w v l) (hle:l.length <= 4096) :
    Calls Tryz.prog 101 #[v,.func (.func 100) #[] #[]] w fun e w'=>∃ x,e = .returned x /\ Q0e w' x (l.map fun x=>Q0g x 0 1024) /\ Ext w w' :=
 Q8p w v l _ _ hv hle (enters_of Tryz.func100 (by kernel_rfl) rfl) (fun W x=>Q9r W x)
theorem Y0j (w:World) (v:Value) (l:List Int) (hv:Q0e w v l) (hle:l.length <= 4096) :
    Calls Tryz.prog 101 #[v,.func (.func 102) #[] #[]] w fun e w'=>∃ x,e = .returned x /\ Q0e w' x (l.map fun x=>Q0g x 0 1000) /\ Ext w w' :=
 Q8p w v l _ _ hv hle (enters_of Tryz.func102 (by kernel_rfl) rfl) (fun W x=>Y1z W x)
theorem Y0o (w:World) (v:Value) (l:List Int) (hv:Q0e w v l) (hle:l.length <= 4096) :
    Calls Tryz.prog 101 #[v,.func (.func 107) #[] #[]] w fun e w'=>∃ x,e = .returned x /\ Q0e w' x (l.map fun x=>Q0g x 0 9) /\ Ext w w' :=
 Q8p w v l _ _ hv hle (enters_of Tryz.func107 (by kernel_rfl) rfl) (fun W x=>Y1i W x)
theorem Z3n (W:World) (nm s:ByteArray) (c1 c2 c3 c4:Value) (B:Nat) (hB:W.cell? ⟨B,0,none⟩ = some (.string s)) :
    Calls Tryz.prog 104 #[.agg #[.string nm,c1,c2,c3,c4],.pointer (some ⟨B,0,none⟩)] W fun e W'=>e = .returned (.bool (nm == s)) /\ Ext W W':=by
 obtain ⟨q,hq⟩:∃ q,(nm.toList == s.toList) = q:=⟨_,rfl⟩;have HQ:Hid ((nm == s) = q):=Lib.hid (by rw [Go.beq_toListBytes]; exact hq)
 have hx:=Ext.box W (.cells #[.string nm,c1,c2,c3,c4] 90);have hB2:=hx.cell hB;have k0:=Blk.made W 90 #[.string nm,c1,c2,c3,c4];have c0:=k0.cell 0;simp only [Go.Tw.gA,Go.Tw.gB] at c0;clear hB k0;go_enter Tryz.func104,Tryz.ntmps104;go_wp2;go_ret;exact ⟨Q0z HQ.out.symm,hx⟩
theorem Y0g (w:World) (l:List Mem) (n:Nat) (A:Option Addr) (cap B:Nat) (s:ByteArray) (hB:w.cell? ⟨B,0,none⟩ = some (.string s)) (hn:n <= 17592186043904)
    (hc:∀ k,k < n -> ∃ b off c1 c2 c3 c4,A = some ⟨b,off,none⟩ /\ w.cell? ⟨b,off + k * 5,none⟩ = some (.string (Q1d l k)) /\ w.cell? ⟨b,off + k * 5 + 1,none⟩ = some c1 /\ w.cell? ⟨b,off + k * 5 + 2,none⟩ = some c2 /\ w.cell? ⟨b,off + k * 5 + 3,none⟩ = some c3 /\ w.cell? ⟨b,off + k * 5 + 4,none⟩ = some c4) :
    Calls Tryz.prog 158 #[.slice A n cap,.func (.func 104) #[] #[.pointer (some ⟨B,0,none⟩)]] w fun e w'=>∃ r:Int,e = .returned (.int .i64 r) /\ decide (0 <= r) = ((List.range n).any fun k=>Q1d l k == s) /\ Ext w w':=by
 have HC:=Lib.hid hc;obtain ⟨p,hp⟩:∃ p:Nat -> Bool,(fun k=>Q1d l k == s) = p:=⟨_,rfl⟩
 have HP:Hid (∀ k,(Q1d l k == s) = p k):=Lib.hid (fun k=>by rw [<- hp])
 rw [hp];clear hc hp;go_enter Tryz.func158,Tryz.ntmps158;go_wp2
 go_loopw [8] (fun i wr=>∃ k:Nat,k <= n /\ i = .int .i64 k /\ ((List.range n).drop k).any p = (List.range n).any p /\ Ext w wr) (fun i _=>n - (intOf i).toNat)
 case atStart=>exact ⟨0,Nat.zero_le _,rfl,rfl,Ext.refl _⟩
 case round =>
  obtain ⟨k,hk,rfl,hr,hx⟩:=hrel;have HR:=Lib.hid hr; clear hr
  by_cases hlt:k < n
  . obtain ⟨b,off,c1,c2,c3,c4,rfl,e0,e1,e2,e3,e4⟩:=HC.out k hlt
    replace e0:=hx.cell e0;replace e1:=hx.cell e1;replace e2:=hx.cell e2;replace e3:=hx.cell e3;replace e4:=hx.cell e4;have hB2:=hx.cell hB;have HST:Hid ((List.range n).any p = (p k || ((List.range n).drop (k + 1)).any p)):=Lib.hid (by
     rw [<- HR.out,List.drop_eq_getElem_cons (by simpa using hlt),List.any_cons,List.getElem_range])
    have HPK:=Lib.hid (HP.out k);obtain ⟨nm,hnm⟩:∃ x,Q1d l k = x:=⟨_,rfl⟩;rw [hnm] at HPK e0;have HCL:=Lib.hid (Z3n wr nm s c1 c2 c3 c4 B hB2);rw [HPK.out] at HCL;obtain ⟨q,hq⟩:∃ q,p k = q:=⟨_,rfl⟩;rw [hq] at HCL HST;clear hq hnm hB2;cases q with
    | true =>
      go_wp2_with (refine HCL.out.mono ?_; rintro e w9 ⟨rfl,hx9⟩);go_ret;exact ⟨k,rfl,by rw [HST.out]; simp,hx.trans hx9⟩
    | false =>
      go_wp2_with (refine HCL.out.mono ?_; rintro e w9 ⟨rfl,hx9⟩);go_roundw
      case rel=>exact ⟨k + 1,by omega,by go_num,by rw [HST.out,Bool.false_or],hx.trans hx9⟩
      case measure=>simp [intOf]; omega
  . go_wp2
    go_ret;exact ⟨-1,rfl,by rw [<- HR.out,List.drop_eq_nil_of_le (by simp; omega)]; rfl,hx⟩
theorem Z7p (w:World) (l:List Mem) (n:Nat) (A:Option Addr) (cap B:Nat) (s:ByteArray) (hB:w.cell? ⟨B,0,none⟩ = some (.string s)) (hn:n <= 17592186043904)
    (hc:∀ k,k < n -> ∃ b off c1 c2 c3 c4,A = some ⟨b,off,none⟩ /\ w.cell? ⟨b,off + k * 5,none⟩ = some (.string (Q1d l k)) /\ w.cell? ⟨b,off + k * 5 + 1,none⟩ = some c1 /\ w.cell? ⟨b,off + k * 5 + 2,none⟩ = some c2 /\ w.cell? ⟨b,off + k * 5 + 3,none⟩ = some c3 /\ w.cell? ⟨b,off + k * 5 + 4,none⟩ = some c4) :
    Calls Tryz.prog 103 #[.slice A n cap,.func (.func 104) #[] #[.pointer (some ⟨B,0,none⟩)]] w fun e w'=>e = .returned (.bool ((List.range n).any fun k=>Q1d l k == s)) /\ Ext w w':=by
 have HI:=Lib.hid (Y0g w l n A cap B s hB hn hc);obtain ⟨q,hq⟩:∃ q,((List.range n).any fun k=>Q1d l k == s) = q:=⟨_,rfl⟩
 rw [hq] at HI ⊢;clear hc hq hB;go_enter Tryz.func103,Tryz.ntmps103;go_wp2_with (go_at_call 158; refine HI.out.mono ?_; rintro e w' ⟨r,rfl,hr,hx⟩; have HR:=Lib.hid hr; clear hr);go_ret;exact ⟨Q0z HR.out,hx⟩
end Go.Proofs
namespace Go.Tw
variable {s:Q0b}
theorem J4c {i t u:Nat} (h:t < u):ix (hs s i u) t = ix (Q0d s.members i) t:=by
 unfold ix hs; simp [List.getD_eq_getElem?_getD,h]
theorem J0w (hf:Fine s) {i u:Nat} (hi:i < s.members.length) (hu:u <= s.ships.length):(hs s i u).length = u:=by
 have:=(hf.shaped i hi).1;simp only [hs,List.length_take]; omega
theorem key_eq (hf:Fine s) {i j u v:Nat} (hi:i < s.members.length) (hj:j < s.members.length) (h:Q6k (hs s i u) = Q6k (hs s j v)):hs s i u = hs s j v :=
 Z4x (Q5i (hf.digits i hi) u) (Q5i (hf.digits j hj) v) h
theorem Y2j (hf:Fine s) {i j u v:Nat} (hi:i < s.members.length) (hj:j < s.members.length) (hu:u <= s.ships.length) (hv:v <= s.ships.length) (h:u ≠ v):Q6k (hs s i u) ≠ Q6k (hs s j v):=by
 intro e;have:=congrArg List.length (key_eq hf hi hj e);rw [J0w hf hi hu,J0w hf hj hv] at this;exact h this
theorem Y8c (hf:Fine s) {i j u v t:Nat} (hi:i < s.members.length) (hj:j < s.members.length) (hu:t < u) (hv:t < v) (h:ix (Q0d s.members i) t ≠ ix (Q0d s.members j) t):Q6k (hs s i u) ≠ Q6k (hs s j v):=by
 intro e;have:=congrArg (fun l=>ix l t) (key_eq hf hi hj e);simp only [J4c hu,J4c hv] at this;exact h this
def Q8g (s:Q0b) (t:Nat) (l:List Runner):Prop:=∀ r ∈ l,∀ q ∈ l,hs s r.member t = hs s q.member t
theorem X0h (hf:Fine s) {t c:Nat} {l:List Runner} (hk:Known s l) (ht:t < s.ships.length) (h:Q8g s t l):Q8g s (t + 1) (Q7v s t c l):=by
 intro r hr q hq;obtain ⟨hr1,hr2⟩:=List.mem_filter.1 hr;obtain ⟨hq1,hq2⟩:=List.mem_filter.1 hq;have e:=h r hr1 q hq1;simp only [beq_iff_eq] at hr2 hq2;have l1:=(hf.shaped _ (hk r hr1)).1;have l2:=(hf.shaped _ (hk q hq1)).1;unfold hs at e ⊢;rw [List.take_add_one,List.take_add_one,e,List.getElem?_eq_getElem (by omega),List.getElem?_eq_getElem (by omega)]
 rw [Q5p (by omega)] at hr2 hq2
 rw [hr2,hq2]
theorem Q3i {t:Nat} {c:Bool} {l:List Runner} (h:Known s l):Known s (moved s t c l):=by
 intro r hr;obtain ⟨q,hq,rfl⟩:=List.mem_map.1 hr;exact h q hq
theorem Q3m {t u:Nat} {c:Bool} {l:List Runner} (h:Q8g s u l):Q8g s u (moved s t c l):=by
 intro r hr q hq;obtain ⟨r',hr',rfl⟩:=List.mem_map.1 hr;obtain ⟨q',hq',rfl⟩:=List.mem_map.1 hq;exact h r' hr' q' hq'
theorem Q8f {t c:Nat} {l:List Runner} (h:Known s l):Known s (Q7v s t c l):=fun r hr=>h r (List.mem_filter.1 hr).1
theorem X7m {f:List Int -> Bool} {k:Nat} {c:Bool}:∀ {l:List Runner},(∀ r ∈ l,f (hs s r.member (s.ships.length - k)) = c) ->
    Z6w s f (k + 1) l = Z6w s f k (moved s (s.ships.length - (k + 1)) c l) /\
    Z1j s f (k + 1) l = (if c then Q5s s l else 0) + Z1j s f k (moved s (s.ships.length - (k + 1)) c l) /\
    Z3o s f (k + 1) l = (if c then Q5s s l * ix s.ships (s.ships.length - (k + 1)) else 0) + Z3o s f k (moved s (s.ships.length - (k + 1)) c l)
 | [],_=>by cases c <;> simp [Z6w,Z1j,Z3o,moved,Q5s]
 | r :: l,h=>by
   obtain ⟨h1,h2,h3⟩:=X7m (l:=l) fun r hr=>h r (List.mem_cons_of_mem _ hr)
   have e:=h r List.mem_cons_self;unfold Z6w at h1 ⊢; unfold Z1j at h2 ⊢; unfold Z3o at h3 ⊢;rw [Y5x] at h1 h2 h3 ⊢;simp only [List.map_cons,List.sum_cons,Q5s] at h1 h2 h3 ⊢;rw [h1,h2,h3];simp only [J7o,J7g,J7j,e,mv1];refine ⟨rfl,?_,?_⟩
   . cases c
     . simp
     . simp only [if_true]; rw [Int.mul_add]; omega
   . cases c
     . simp
     . simp only [if_true]; rw [Int.mul_add,Int.add_mul]; omega
def Sound (s:Q0b) (t k:Nat) (l:List Runner) (x:Plan):Prop :=
 Keys s x.closed t l /\ ∀ f,Agr s f x.closed t l -> Z6w s f k l = x.weight /\ Z1j s f k l = x.closings /\ Z3o s f k l = x.delay
def Covers (s:Q0b) (f:List Int -> Bool) (k:Nat) (l:List Runner) (x:Plan):Prop:=Z6w s f k l <= x.weight /\ x.closings <= Z1j s f k l /\ x.delay <= Z3o s f k l
instance lawB:LawfulBEq ByteArray where
 eq_of_beq {a b} h:=by
  by_cases e:a = b
  . exact e
  . rw [X1a e] at h; exact absurd h (by simp)
 rfl {a}:=str_eq rfl
theorem X5w (a b:List ByteArray) (k:ByteArray):(a ++ b).contains k = (a.contains k || b.contains k):=by simp
theorem Q8x {a:List ByteArray} {k:ByteArray} (h:∀ b ∈ a,b ≠ k):a.contains k = false:=by
 rw [<- Bool.not_eq_true,List.contains_iff_mem]; exact fun hk=>h k hk rfl
theorem Y7i (hf:Fine s) {k:Nat} (hk:k + 1 <= s.ships.length) {sub:List Runner -> List Plan}
    (ih:∀ l,Known s l -> Q8g s (s.ships.length - k) l -> ∀ x ∈ sub l,Sound s (s.ships.length - k) k l x) {l:List Runner} (hl:Known s l) (hn:l ≠ [])
    (hs':Q8g s (s.ships.length - k) l) {x:Plan} (hx:x ∈ Q3v s (s.ships.length - (k + 1)) sub l):Sound s (s.ships.length - (k + 1)) (k + 1) l x:=by
 have e1:s.ships.length - (k + 1) + 1 = s.ships.length - k:=by omega
 rcases List.mem_append.1 (Y0z hx) with h | h
 . obtain ⟨h1,h2⟩:=ih _ (Q3i hl) (Q3m hs') x h
   refine ⟨fun b hb=>?_,fun f hA=>?_⟩
   . obtain ⟨r,hr,u,hu,hu2,e⟩:=h1 b hb
     obtain ⟨q,hq,rfl⟩:=List.mem_map.1 hr;exact ⟨q,hq,u,by omega,hu2,e⟩
   . have hc:∀ r ∈ l,f (hs s r.member (s.ships.length - k)) = false:=by
      intro r hr;rw [hA r hr _ (by omega) (by omega)]
      refine Q8x fun b hb=>?_;obtain ⟨q,hq,u,hu,hu2,e⟩:=h1 b hb;rw [e];exact Y2j hf (Q3i hl q hq) (hl r hr) hu2 (by omega) (by omega)
     obtain ⟨v1,v2,v3⟩:=X7m hc;obtain ⟨w1,w2,w3⟩:=h2 f fun r hr u hu hu2=>by
      obtain ⟨q,hq,rfl⟩:=List.mem_map.1 hr;exact hA q hq u (by omega) hu2
     rw [v1,v2,v3,w1,w2,w3];simp
 . obtain ⟨y,hy,rfl⟩:=List.mem_map.1 h
   obtain ⟨h1,h2⟩:=ih _ (Q3i hl) (Q3m hs') y hy;obtain ⟨r0,l0,rfl⟩:∃ r0 l0,l = r0 :: l0:=by cases l with | nil=>exact absurd rfl hn | cons a b=>exact ⟨a,b,rfl⟩
   have hh:Y7n s (s.ships.length - (k + 1)) (r0 :: l0) = Q6k (hs s r0.member (s.ships.length - k)):=by rw [Y7n,hs,e1]
   refine ⟨fun b hb=>?_,fun f hA=>?_⟩
   . rcases List.mem_append.1 (show b ∈ y.closed ++ [_] from hb) with hb | hb
     . obtain ⟨r,hr,u,hu,hu2,e⟩:=h1 b hb
       obtain ⟨q,hq,rfl⟩:=List.mem_map.1 hr;exact ⟨q,hq,u,by omega,hu2,e⟩
     . rw [List.mem_singleton] at hb
       exact ⟨r0,List.mem_cons_self,s.ships.length - k,by omega,by omega,hb.trans hh⟩
   . have hA':∀ r ∈ r0 :: l0,∀ u,s.ships.length - (k + 1) < u -> u <= s.ships.length -> f (hs s r.member u) = (y.closed.contains (Q6k (hs s r.member u)) || [Y7n s (s.ships.length - (k + 1)) (r0 :: l0)].contains (Q6k (hs s r.member u))) :=
      fun r hr u hu hu2=>(hA r hr u hu hu2).trans (X5w _ _ _)
     have hc:∀ r ∈ r0 :: l0,f (hs s r.member (s.ships.length - k)) = true:=by
      intro r hr;rw [hA' r hr _ (by omega) (by omega),hh,hs' r hr r0 List.mem_cons_self]
      simp
     obtain ⟨v1,v2,v3⟩:=X7m hc;obtain ⟨w1,w2,w3⟩:=h2 f fun r hr u hu hu2=>by
      obtain ⟨q,hq,rfl⟩:=List.mem_map.1 hr;have:=hA' q hq u (by omega) hu2
      rw [hh,Q8x (a:=[_]) (fun b hb=>by rw [List.mem_singleton] at hb; rw [hb]; exact Y2j hf (hl r0 List.mem_cons_self) (hl q hq) (by omega) hu2 (by omega)),Bool.or_false] at this
      exact this
     rw [v1,v2,v3,w1,w2,w3];simp only [if_true,Y3q];refine ⟨trivial,?_,?_⟩ <;> omega
theorem Y6k {k:Nat} {sub:List Runner -> List Plan} {f:List Int -> Bool}
    (ih:∀ l,Known s l -> Q8g s (s.ships.length - k) l -> ∃ x ∈ sub l,Covers s f k l x) {l:List Runner} (hl:Known s l) (hn:l ≠ [])
    (hs':Q8g s (s.ships.length - k) l):∃ x ∈ Q3v s (s.ships.length - (k + 1)) sub l,Covers s f (k + 1) l x:=by
 obtain ⟨r0,hr0⟩:=List.exists_mem_of_ne_nil l hn;have hc:∀ r ∈ l,f (hs s r.member (s.ships.length - k)) = f (hs s r0.member (s.ships.length - k)):=fun r hr=>by rw [hs' r hr r0 hr0]
 obtain ⟨v1,v2,v3⟩:=X7m hc;obtain ⟨x,hx,c1,c2,c3⟩:=ih (moved s (s.ships.length - (k + 1)) (f (hs s r0.member (s.ships.length - k))) l) (Q3i hl) (Q3m hs');cases hb:f (hs s r0.member (s.ships.length - k))
 . rw [hb] at v1 v2 v3 hx c1 c2 c3
   obtain ⟨o,ho,hob⟩:=X1n (l:=sub (moved s (s.ships.length - (k + 1)) false l) ++ (sub (moved s (s.ships.length - (k + 1)) true l)).map (Y3q s (s.ships.length - (k + 1)) l)) (List.mem_append.2 (.inl hx));rw [X0g] at hob;simp only [Bool.false_eq_true,if_false] at v2 v3;exact ⟨o,ho,by omega,by omega,by omega⟩
 . rw [hb] at v1 v2 v3 hx c1 c2 c3
   obtain ⟨o,ho,hob⟩:=X1n (l:=sub (moved s (s.ships.length - (k + 1)) false l) ++ (sub (moved s (s.ships.length - (k + 1)) true l)).map (Y3q s (s.ships.length - (k + 1)) l)) (List.mem_append.2 (.inr (List.mem_map.2 ⟨x,hx,rfl⟩)));rw [X0g] at hob;simp only [if_true] at v2 v3;simp only [Y3q] at hob;exact ⟨o,ho,by omega,by omega,by omega⟩
end Go.Tw
namespace Go.Tw
variable {s:Q0b}
def X5x (s:Q0b) (t c:Nat) (l:List Runner):List Runner:=l.filter fun x=>decide (ix (Q0d s.members x.member) t < (c:Int))
theorem Q9x {t c:Nat} {l:List Runner} {r:Runner}:r ∈ X5x s t c l ↔ r ∈ l /\ ix (Q0d s.members r.member) t < (c:Int):=by simp [X5x]
theorem X9g {t c:Nat} {l:List Runner} {r:Runner}:r ∈ Q7v s t c l ↔ r ∈ l /\ ix (Q0d s.members r.member) t = (c:Int):=by simp [Q7v]
theorem X9m {t c:Nat} {l:List Runner} {r:Runner} (h:r ∈ X5x s t c l):r ∈ X5x s t (c + 1) l:=by
 rw [Q9x] at h ⊢; exact ⟨h.1,by have:=h.2; omega⟩
theorem Z0w {t c:Nat} {l:List Runner} {r:Runner} (h:r ∈ Q7v s t c l):r ∈ X5x s t (c + 1) l:=by
 rw [X9g] at h; rw [Q9x]; exact ⟨h.1,by have:=h.2; omega⟩
theorem Q8v (t c:Nat) (g:Runner -> Int):∀ l:List Runner,((X5x s t (c + 1) l).map g).sum = ((X5x s t c l).map g).sum + ((Q7v s t c l).map g).sum
 | []=>rfl
 | x :: l=>by
   have ih:=Q8v t c g l;unfold X5x Q7v at ih ⊢;simp only [List.filter_cons]
   by_cases h1:ix (Q0d s.members x.member) t < (c:Int)
   . have h2:ix (Q0d s.members x.member) t < ((c + 1:Nat):Int):=by omega
     have h3:(ix (Q0d s.members x.member) t == (c:Int)) = false:=by simp; omega
     simp only [h1,h2,h3,decide_true,if_true,Bool.false_eq_true,if_false,List.map_cons,List.sum_cons]; omega
   . by_cases h4:ix (Q0d s.members x.member) t = (c:Int)
     . have h2:ix (Q0d s.members x.member) t < ((c + 1:Nat):Int):=by omega
       have h3:(ix (Q0d s.members x.member) t == (c:Int)) = true:=by simp [h4]
       simp only [h1,h2,h3,decide_true,decide_false,if_true,Bool.false_eq_true,if_false,List.map_cons,List.sum_cons]; omega
     . have h2:¬ ix (Q0d s.members x.member) t < ((c + 1:Nat):Int):=by omega
       have h3:(ix (Q0d s.members x.member) t == (c:Int)) = false:=by simp [h4]
       simp only [h1,h2,h3,decide_false,Bool.false_eq_true,if_false]; exact ih
theorem Z4l (hf:Fine s) {i t:Nat} (hi:i < s.members.length) (ht:t < s.ships.length):0 <= ix (Q0d s.members i) t /\ ix (Q0d s.members i) t <= 9:=by
 have h:=(hf.shaped i hi).1;rw [Q5p (by omega)]; exact hf.digits i hi _ (List.getElem_mem _)
theorem Y4n (hf:Fine s) {t:Nat} {l:List Runner} (hl:Known s l) (ht:t < s.ships.length):X5x s t 0 l = []:=by
 rw [X5x,List.filter_eq_nil_iff];intro r hr;have:=(Z4l hf (hl r hr) ht).1;simp only [decide_eq_true_eq]; omega
theorem Z2d (hf:Fine s) {t:Nat} {l:List Runner} (hl:Known s l) (ht:t < s.ships.length):X5x s t 10 l = l:=by
 rw [X5x,List.filter_eq_self];intro r hr;have:=(Z4l hf (hl r hr) ht).2;simp only [decide_eq_true_eq]; omega
theorem X2a (hf:Fine s) {k:Nat} (hk:k + 1 <= s.ships.length) {sub:List Runner -> List Plan}
    (ih:∀ l,Known s l -> Q8g s (s.ships.length - k) l -> ∀ x ∈ sub l,Sound s (s.ships.length - k) k l x) {l:List Runner} (hl:Known s l)
    (hs':Q8g s (s.ships.length - (k + 1)) l):∀ (c:Nat) (x:Plan),x ∈ Q2f s (s.ships.length - (k + 1)) sub l c ->
     Sound s (s.ships.length - (k + 1)) (k + 1) (X5x s (s.ships.length - (k + 1)) c l) x
 | 0,x,hx=>by
   rw [Q2f,List.mem_singleton] at hx;subst hx;rw [Y4n hf hl (by omega)]
   exact ⟨fun b hb=>absurd hb (by simp),fun f _=>⟨rfl,rfl,rfl⟩⟩
 | c + 1,x,hx=>by
   have e1:s.ships.length - (k + 1) + 1 = s.ships.length - k:=by omega
   rw [Q2f] at hx
   split at hx
   . rename_i hn
     obtain ⟨h1,h2⟩:=X2a hf hk ih hl hs' c x hx;refine ⟨fun b hb=>?_,fun f hA=>?_⟩
     . obtain ⟨r,hr,u,hu⟩:=h1 b hb
       exact ⟨r,X9m hr,u,hu⟩
     . obtain ⟨w1,w2,w3⟩:=h2 f fun r hr=>hA r (X9m hr)
       unfold Z6w at w1 ⊢; unfold Z1j at w2 ⊢; unfold Z3o at w3 ⊢;rw [Q8v,Q8v,Q8v,hn,w1,w2,w3];simp
   . rename_i hn
     obtain ⟨y,hy,z,hz,rfl⟩:=X6f hx;obtain ⟨h1,h2⟩:=X2a hf hk ih hl hs' c y hy;obtain ⟨g1,g2⟩:=Y7i hf hk ih (Q8f hl) hn (e1 ▸ X0h hf hl (by omega) hs') hz
     refine ⟨fun b hb=>?_,fun f hA=>?_⟩
     . rcases List.mem_append.1 (show b ∈ y.closed ++ z.closed from hb) with hb | hb
       . obtain ⟨r,hr,u,hu⟩:=h1 b hb
         exact ⟨r,X9m hr,u,hu⟩
       . obtain ⟨r,hr,u,hu⟩:=g1 b hb
         exact ⟨r,Z0w hr,u,hu⟩
     . have hA':∀ r ∈ X5x s (s.ships.length - (k + 1)) (c + 1) l,∀ u,s.ships.length - (k + 1) < u -> u <= s.ships.length -> f (hs s r.member u) = (y.closed.contains (Q6k (hs s r.member u)) || z.closed.contains (Q6k (hs s r.member u))) :=
        fun r hr u hu hu2=>(hA r hr u hu hu2).trans (X5w _ _ _)
       obtain ⟨w1,w2,w3⟩:=h2 f fun r hr u hu hu2=>by
        have hr':=Q9x.1 hr;rw [hA' r (X9m hr) u hu hu2,Q8x (a:=z.closed),Bool.or_false];intro b hb;obtain ⟨q,hq,v,hv,hv2,e⟩:=g1 b hb;have hq':=X9g.1 hq;rw [e]; exact Y8c hf (hl q hq'.1) (hl r hr'.1) hv hu (by have:=hr'.2; have:=hq'.2; omega)
       obtain ⟨v1,v2,v3⟩:=g2 f fun r hr u hu hu2=>by
        have hr':=X9g.1 hr;rw [hA' r (Z0w hr) u hu hu2,Q8x (a:=y.closed),Bool.false_or];intro b hb;obtain ⟨q,hq,v,hv,hv2,e⟩:=h1 b hb;have hq':=Q9x.1 hq;rw [e]; exact Y8c hf (hl q hq'.1) (hl r hr'.1) hv hu (by have:=hr'.2; have:=hq'.2; omega)
       unfold Z6w at w1 v1 ⊢; unfold Z1j at w2 v2 ⊢; unfold Z3o at w3 v3 ⊢;rw [Q8v,Q8v,Q8v,w1,w2,w3,v1,v2,v3];exact ⟨rfl,rfl,rfl⟩
theorem X6a (hf:Fine s) {k:Nat} (hk:k + 1 <= s.ships.length) {sub:List Runner -> List Plan} {f:List Int -> Bool}
    (ih:∀ l,Known s l -> Q8g s (s.ships.length - k) l -> ∃ x ∈ sub l,Covers s f k l x) {l:List Runner} (hl:Known s l)
    (hs':Q8g s (s.ships.length - (k + 1)) l):∀ c:Nat,∃ x ∈ Q2f s (s.ships.length - (k + 1)) sub l c,Covers s f (k + 1) (X5x s (s.ships.length - (k + 1)) c l) x
 | 0=>by
   rw [Y4n hf hl (by omega)]
   exact ⟨_,List.mem_singleton.2 rfl,Int.le_refl 0,Int.le_refl 0,Int.le_refl 0⟩
 | c + 1=>by
   have e1:s.ships.length - (k + 1) + 1 = s.ships.length - k:=by omega
   obtain ⟨y,hy,y1,y2,y3⟩:=X6a hf hk ih hl hs' c;rw [Q2f];unfold Covers;unfold Z6w at y1 ⊢; unfold Z1j at y2 ⊢; unfold Z3o at y3 ⊢;simp only [Q8v]
   split
   . rename_i hn
     refine ⟨y,hy,?_⟩;rw [hn];simp only [List.map_nil,List.sum_nil];exact ⟨by omega,by omega,by omega⟩
   . rename_i hn
     obtain ⟨z,hz,z1,z2,z3⟩:=Y6k ih (Q8f (c:=c) hl) hn (e1 ▸ X0h hf hl (by omega) hs')
     obtain ⟨o,ho,hob⟩:=Y1g hy hz;rw [X0g] at hob;simp only [both] at hob;unfold Z6w at z1; unfold Z1j at z2; unfold Z3o at z3;exact ⟨o,ho,by omega,by omega,by omega⟩
theorem X0s {α:Type}:∀ l:List α,(l.map fun _=>(0:Int)).sum = 0
 | []=>rfl
 | _ :: l=>by rw [List.map_cons,List.sum_cons,X0s l]; rfl
theorem X8u (hf:Fine s):∀ k,k <= s.ships.length -> ∀ l,Known s l -> Q8g s (s.ships.length - k) l -> ∀ x ∈ Q2d s k l,Sound s (s.ships.length - k) k l x
 | 0,_,l,_,_,x,hx=>by
   rw [Q2d,List.mem_singleton] at hx;subst hx;refine ⟨fun b hb=>absurd hb (by simp),fun f _=>⟨rfl,?_,?_⟩⟩
   . unfold Z1j J7g; simp [X0s]
   . unfold Z3o J7j; simp [X0s]
 | k + 1,hk,l,hl,hs',x,hx=>by
   have:=X2a hf hk (X8u hf k (by omega)) hl hs' 10 x hx
   rwa [Z2d hf hl (by omega)] at this
theorem X6q (hf:Fine s) (f:List Int -> Bool):∀ k,k <= s.ships.length -> ∀ l,Known s l -> Q8g s (s.ships.length - k) l -> ∃ x ∈ Q2d s k l,Covers s f k l x
 | 0,_,l,_,_=>by
   refine ⟨_,List.mem_singleton.2 rfl,Int.le_refl _,?_,?_⟩
   . unfold Z1j J7g; simp [X0s]
   . unfold Z3o J7j; simp [X0s]
 | k + 1,hk,l,hl,hs'=>by
   have:=X6a hf hk (X6q hf f k (by omega)) hl hs' 10
   rwa [Z2d hf hl (by omega)] at this
def Y4c (s:Q0b):List Runner:=(List.range s.members.length).map fun i=>⟨i,0,true⟩
theorem Q7w:Known s (Y4c s):=by
 intro r hr;obtain ⟨i,hi,rfl⟩:=List.mem_map.1 hr;exact List.mem_range.1 hi
theorem Q9w:Q8g s (s.ships.length - s.ships.length) (Y4c s):=by
 intro r _ q _;rw [Nat.sub_self]; simp [hs]
theorem Z2p (hf:Fine s) {x:Plan} (hx:x ∈ Q1v s) (f:List Int -> Bool) (h:∀ i,i < s.members.length -> ∀ u,0 < u -> u <= s.ships.length -> f (hs s i u) = x.closed.contains (Q6k (hs s i u))) :
    Z6w s f s.ships.length (Y4c s) = x.weight /\ Z1j s f s.ships.length (Y4c s) = x.closings /\ Z3o s f s.ships.length (Y4c s) = x.delay :=
 (X8u hf _ (Nat.le_refl _) _ Q7w Q9w x hx).2 f fun r hr u hu hu2=>h _ (Q7w r hr) u (by omega) hu2
theorem X8q (hf:Fine s) (f:List Int -> Bool):∃ x ∈ Q1v s,Covers s f s.ships.length (Y4c s) x:=X6q hf f _ (Nat.le_refl _) _ Q7w Q9w
end Go.Tw
namespace Go.Tw
variable {s:Q0b}
theorem Q7n {α:Type} (p:α -> Bool) (g:α -> Int):∀ l:List α,(l.map fun x=>if p x = true then g x else 0).sum = ((l.filter p).map g).sum
 | []=>rfl
 | x :: l=>by
   rw [List.map_cons,List.sum_cons,Q7n p g l,List.filter_cons];cases h:p x <;> simp
theorem Q7h {α β:Type} (d:α) (g:α -> β) (l:List α):l.map g = (List.range l.length).map fun i=>g (l.getD i d):=by
 apply List.ext_getElem (by simp)
 intro i h1 h2;simp only [List.length_map] at h1;simp [h1]
theorem X0q (k:Nat):List.range (k + 1) = 0 :: (List.range k).map (· + 1):=List.range_succ_eq_map
def J1o (s:Q0b) (f:List Int -> Bool) (i:Nat):List Bool:=(List.range s.ships.length).map fun t=>f (hs s i (t + 1))
theorem J2l (f:List Int -> Bool) (i k:Nat) (hk:k + 1 <= s.ships.length) :
    (J1o s f i).drop (s.ships.length - (k + 1)) = f (hs s i (s.ships.length - k)) :: (J1o s f i).drop (s.ships.length - k):=by
 have h:s.ships.length - (k + 1) < (J1o s f i).length:=by simp [J1o]; omega
 rw [List.drop_eq_getElem_cons h];have e:s.ships.length - (k + 1) + 1 = s.ships.length - k:=by omega
 rw [e]
 congr 1
 simp only [J1o,List.getElem_map,List.getElem_range,e]
theorem Z9a (f:List Int -> Bool):∀ k,k <= s.ships.length -> ∀ x:Runner,J7o s f k x =
    (x.dry && !(((Q1k s x.member).Q2i (s.ships.length - k) x.level ((J1o s f x.member).drop (s.ships.length - k))).any fun y=>decide (s.limit < y)))
 | 0,_,x=>by
   rw [J7o,Nat.sub_zero,List.drop_of_length_le (by simp [J1o])]
   simp [Mem.Q2i]
 | k + 1,hk,x=>by
   rw [J7o,Z9a f k (by omega),J2l f _ k hk]
   have e:s.ships.length - (k + 1) + 1 = s.ships.length - k:=by omega
   simp only [mv1,Mem.Q2i,List.any_cons,e];generalize ((Q1k s x.member).stepT (s.ships.length - (k + 1)) x.level (f (hs s x.member (s.ships.length - k)))).1 = pk
   by_cases h:pk <= s.limit
   . have h':¬ s.limit < pk:=by omega
     simp [h,h']
   . have h':s.limit < pk:=by omega
     simp [h,h']
theorem J0k (f:List Int -> Bool) (i:Nat):∀ k,k <= s.ships.length -> J7g s f k i = ((List.range k).map fun j=>if f (hs s i (s.ships.length - k + j + 1)) then (1:Int) else 0).sum
 | 0,_=>rfl
 | k + 1,hk=>by
   rw [J7g,J0k f i k (by omega),X0q,List.map_cons,List.sum_cons,List.map_map]
   have e:s.ships.length - (k + 1) + 0 + 1 = s.ships.length - k:=by omega
   rw [e]
   congr 2
   apply List.map_congr_left
   intro j _;have e2:s.ships.length - (k + 1) + (j + 1) + 1 = s.ships.length - k + j + 1:=by omega
   simp only [Function.comp,e2]
theorem J0l (f:List Int -> Bool) (i:Nat):∀ k,k <= s.ships.length -> J7j s f k i = ((List.range k).map fun j=>if f (hs s i (s.ships.length - k + j + 1)) then ix s.ships (s.ships.length - k + j) else 0).sum
 | 0,_=>rfl
 | k + 1,hk=>by
   rw [J7j,J0l f i k (by omega),X0q,List.map_cons,List.sum_cons,List.map_map]
   have e:s.ships.length - (k + 1) + 0 + 1 = s.ships.length - k:=by omega
   rw [e,Nat.add_zero]
   congr 2
   apply List.map_congr_left
   intro j _;have e3:s.ships.length - (k + 1) + (j + 1) = s.ships.length - k + j:=by omega
   simp only [Function.comp,e3]
theorem count_map (g:Nat -> Bool):∀ n:Nat,countB ((List.range n).map g) = ((List.range n).map fun j=>if g j then (1:Int) else 0).sum:=by
 have go:∀ l:List Nat,countB (l.map g) = (l.map fun j=>if g j then (1:Int) else 0).sum:=by
  intro l
  induction l with
  | nil=>rfl
  | cons a l ih =>
    unfold countB at ih ⊢;rw [List.map_cons,List.map_cons,List.sum_cons,<- ih,List.countP_cons];cases h:g a
    . simp
    . simp; omega
 intro n; exact go _
theorem X0a (hf:Fine s) (p:List Rul) {i:Nat} (hi:i < s.members.length):Q0w p (Q1k s i).classes = J1o s (look p) i:=by
 have h:=(hf.shaped i hi).1;unfold Q0w J1o hs;show (List.range (Q0d s.members i).length).map _ = _;rw [h]; rfl
theorem Z4s (hf:Fine s) (p:List Rul):Z6w s (look p) s.ships.length (Y4c s) = Q6b s (X9b s p):=by
 unfold Z6w Y4c Q6b X9b;rw [List.map_map,List.map_map,<- Q7n]
 congr 1
 apply List.map_congr_left
 intro i hi;have hi':=List.mem_range.1 hi;simp only [Function.comp];rw [Z9a _ _ (Nat.le_refl _),X0a hf p hi'];simp only [Nat.sub_self,List.drop_zero,Bool.true_and,Mem.keeps,Mem.Q8n];rfl
theorem X5u (hf:Fine s) (p:List Rul):Z1j s (look p) s.ships.length (Y4c s) = Q3j s p:=by
 unfold Z1j Y4c Q3j;rw [List.map_map,Q7h default _ s.members]
 congr 1
 apply List.map_congr_left
 intro i hi;have hi':=List.mem_range.1 hi;simp only [Function.comp];have:=X0a hf p hi';unfold Q1k at this;rw [J0k _ _ _ (Nat.le_refl _),this,J1o,count_map];simp only [Nat.sub_self,Nat.zero_add];rfl
theorem Y9j (hf:Fine s) (p:List Rul):Z3o s (look p) s.ships.length (Y4c s) = X1f s p:=by
 unfold Z3o Y4c X1f;rw [List.map_map,Q7h default _ s.members]
 congr 1
 apply List.map_congr_left
 intro i hi;have hi':=List.mem_range.1 hi;simp only [Function.comp];have:=X0a hf p hi';unfold Q1k at this;rw [J0l _ _ _ (Nat.le_refl _),this];unfold Q2s J1o;simp only [Nat.sub_self,Nat.zero_add,List.length_map,List.length_range];show Q0h s.members i * _ = _ * _
 congr 2
 apply List.map_congr_left
 intro t ht;have ht':=List.mem_range.1 ht;simp [ht']
end Go.Tw
namespace Go.Tw
variable {s:Q0b}
def X9n (s:Q0b) (n:Nat):List Rul:=(List.range s.hist.length).map fun i=>⟨s.hist.getD i [],n.testBit i⟩
def pick (need:Int) (b:Option (Int × Int)) (w c d:Int):Option (Int × Int) :=
 if w < need then b else match b with
 | none=>some (c,d)
 | some (x,y)=>if c < x ∨ c = x /\ d < y then some (c,d) else some (x,y)
theorem Q8r:∀ (m:Nat) (g:Nat -> Bool),∃ n,n < 2 ^ m /\ ∀ i,i < m -> n.testBit i = g i
 | 0,_=>⟨0,by decide,fun i h=>absurd h (Nat.not_lt_zero _)⟩
 | m + 1,g=>by
   obtain ⟨n,hn,h⟩:=Q8r m g;cases hg:g m
   . refine ⟨n,by rw [Nat.pow_succ]; omega,fun i hi=>?_⟩
     by_cases e:i = m
     . subst e; rw [hg,Nat.testBit_lt_two_pow hn]
     . exact h i (by omega)
   . refine ⟨2 ^ m + n,by rw [Nat.pow_succ]; omega,fun i hi=>?_⟩
     by_cases e:i = m
     . subst e; rw [hg,Nat.testBit_two_pow_add_eq,Nat.testBit_lt_two_pow hn]; rfl
     . rw [Nat.testBit_two_pow_add_gt (by omega)]; exact h i (by omega)
theorem Y4z (g:List Int -> Bool) (h:List Int):∀ l:List (List Int),h ∈ l -> look (l.map fun x=>⟨x,g x⟩) h = g h
 | [],hh=>absurd hh (by simp)
 | x :: l,hh=>by
   by_cases e:x = h
   . subst e; simp [look]
   . have:=Y4z g h l ((List.mem_cons.1 hh).resolve_left (Ne.symm e))
     unfold look at this ⊢;rw [List.map_cons,List.find?_cons];simp only [show (x == h) = false by simp [e]]
     exact this
theorem Z2e {i u:Nat} (hi:i < s.members.length) (h0:0 < u) (hu:u <= s.ships.length):hs s i u ∈ s.hist :=
 (Q0b.Q4k _ _).2 ⟨u - 1,by omega,i,hi,by rw [hs,Nat.sub_add_cancel h0]⟩
theorem Y4k (hf:Fine s) {x:Plan} (hx:x ∈ Q1v s):Q6b s (X9b s (X0e s x)) = x.weight /\ Q3j s (X0e s x) = x.closings /\ X1f s (X0e s x) = x.delay:=by
 rw [<- Z4s hf,<- X5u hf,<- Y9j hf];exact Z2p hf hx _ fun i hi u h0 hu=>Y4z _ _ _ (Z2e hi h0 hu)
theorem X3m {α:Type} (g:α -> Int):∀ (l:List α) (a:Int),a <= l.foldl (fun m x=>max m (g x)) a /\ (∀ x ∈ l,g x <= l.foldl (fun m x=>max m (g x)) a) /\
    (l.foldl (fun m x=>max m (g x)) a = a ∨ ∃ x ∈ l,l.foldl (fun m x=>max m (g x)) a = g x)
 | [],a=>⟨Int.le_refl _,fun _ h=>absurd h (by simp),.inl rfl⟩
 | y :: l,a=>by
   obtain ⟨h1,h2,h3⟩:=X3m g l (max a (g y));rw [List.foldl_cons];refine ⟨by omega,fun x hx=>?_,?_⟩
   . rcases List.mem_cons.1 hx with e | e
     . subst e; omega
     . exact h2 x e
   . rcases h3 with h3 | ⟨x,hx,h3⟩
     . by_cases e:a <= g y
       . exact .inr ⟨y,List.mem_cons_self,by omega⟩
       . exact .inl (by omega)
     . exact .inr ⟨x,List.mem_cons_of_mem _ hx,h3⟩
def Best (need:Int) (l:List (Int × Int × Int)) (r:Option (Int × Int)):Prop:=match r with
 | none=>∀ t ∈ l,t.1 < need
 | some (a,b)=>(∃ t ∈ l,need <= t.1 /\ t.2.1 = a /\ t.2.2 = b) /\ ∀ t ∈ l,need <= t.1 -> a < t.2.1 ∨ a = t.2.1 /\ b <= t.2.2
theorem Z9d {need:Int} {l:List (Int × Int × Int)} {r:Option (Int × Int)} (h:Best need l r) (w c d:Int):Best need (l ++ [(w,c,d)]) (pick need r w c d):=by
 unfold pick
 by_cases hw:w < need
 . rw [if_pos hw]
   cases r with
   | none => intro t ht; rcases List.mem_append.1 ht with e | e
             . exact h t e
             . rw [List.mem_singleton] at e; subst e; exact hw
   | some p =>
     obtain ⟨⟨t,ht,h1⟩,h2⟩:=h;refine ⟨⟨t,List.mem_append.2 (.inl ht),h1⟩,fun u hu hn=>?_⟩
     rcases List.mem_append.1 hu with e | e
     . exact h2 u e hn
     . rw [List.mem_singleton] at e; subst e; simp only at hn; omega
 . rw [if_neg hw]
   have me:(w,c,d) ∈ l ++ [(w,c,d)]:=List.mem_append.2 (.inr (List.mem_singleton.2 rfl));cases r with
   | none =>
     refine ⟨⟨_,me,by simp only; omega,rfl,rfl⟩,fun u hu hn=>?_⟩
     rcases List.mem_append.1 hu with e | e
     . have:=h u e; omega
     . rw [List.mem_singleton] at e; subst e; exact .inr ⟨rfl,Int.le_refl _⟩
   | some p =>
     obtain ⟨x,y⟩:=p;obtain ⟨⟨t,ht,h1⟩,h2⟩:=h;dsimp only
     by_cases hb:c < x ∨ c = x /\ d < y
     . rw [if_pos hb]
       refine ⟨⟨_,me,by simp only; omega,rfl,rfl⟩,fun u hu hn=>?_⟩
       rcases List.mem_append.1 hu with e | e
       . have:=h2 u e hn; omega
       . rw [List.mem_singleton] at e; subst e; exact .inr ⟨rfl,Int.le_refl _⟩
     . rw [if_neg hb]
       refine ⟨⟨t,List.mem_append.2 (.inl ht),h1⟩,fun u hu hn=>?_⟩
       rcases List.mem_append.1 hu with e | e
       . exact h2 u e hn
       . rw [List.mem_singleton] at e; subst e; simp only; omega
def tri (x:Plan):Int × Int × Int:=(x.weight,x.closings,x.delay)
theorem X5a (need:Int):∀ (l pre:List Plan) (b:Option Plan),Best need (pre.map tri) (b.map fun x=>(x.closings,x.delay)) -> (∀ x,b = some x -> x ∈ pre /\ need <= x.weight) ->
    Best need ((pre ++ l).map tri) ((l.foldl (Q1s need) b).map fun x=>(x.closings,x.delay)) /\ ∀ x,l.foldl (Q1s need) b = some x -> x ∈ pre ++ l /\ need <= x.weight
 | [],pre,b,h,hb=>by rw [List.append_nil]; exact ⟨h,hb⟩
 | x :: l,pre,b,h,hb=>by
   have hp:=Z9d h x.weight x.closings x.delay;have e:pick need (b.map fun x=>(x.closings,x.delay)) x.weight x.closings x.delay = (Q1s need b x).map fun x=>(x.closings,x.delay):=by
    unfold pick Q1s
    by_cases hw:x.weight < need
    . rw [if_pos hw,if_pos hw]
    . rw [if_neg hw,if_neg hw]
      cases b with
      | none=>rfl
      | some o =>
        dsimp only [Option.map_some]
        by_cases hc:x.closings < o.closings ∨ x.closings = o.closings /\ x.delay < o.delay
        . rw [if_pos hc,if_pos hc]; rfl
        . rw [if_neg hc,if_neg hc]; rfl
   rw [e] at hp;have:=X5a need l (pre ++ [x]) (Q1s need b x) (by rw [List.map_append]; exact hp) fun y hy=>by
    unfold Q1s at hy
    by_cases hw:x.weight < need
    . rw [if_pos hw] at hy
      obtain ⟨k1,k2⟩:=hb y hy;exact ⟨List.mem_append.2 (.inl k1),k2⟩
    . rw [if_neg hw] at hy
      have hx:x ∈ pre ++ [x]:=List.mem_append.2 (.inr (List.mem_singleton.2 rfl));cases b with
      | none=>cases hy; exact ⟨hx,by omega⟩
      | some o =>
        dsimp only at hy
        split at hy
        . cases hy; exact ⟨hx,by omega⟩
        . obtain ⟨k1,k2⟩:=hb y hy
          exact ⟨List.mem_append.2 (.inl k1),k2⟩
   rw [List.append_assoc] at this;exact this
theorem J6w (hf:Fine s) {need:Int} {x:Plan} (h:X0f s need = some x):need <= x.weight /\ Q6b s (X9b s (X0e s x)) = x.weight /\ Q3j s (X0e s x) = x.closings /\ X1f s (X0e s x) = x.delay:=by
 obtain ⟨-,k⟩:=X5a need (Q1v s) [] none (fun t ht=>absurd ht (by simp)) (fun x hx=>by cases hx)
 obtain ⟨k1,k2⟩:=k x h;exact ⟨k2,Y4k hf (by simpa using k1)⟩
end Go.Tw
namespace Go.Tw
variable {s:Q0b}
theorem J0b {α:Type} {g h:α -> Int}:∀ {l:List α},(∀ x ∈ l,g x <= h x) -> (l.map g).sum <= (l.map h).sum
 | [],_=>Int.le_refl _
 | x :: l,hh=>by
   have h1:=hh x List.mem_cons_self;have h2:=J0b (l:=l) fun y hy=>hh y (List.mem_cons_of_mem _ hy);rw [List.map_cons,List.sum_cons,List.map_cons,List.sum_cons]; omega
theorem X4z {α:Type} {g:α -> Int} {l:List α} (h:∀ x ∈ l,0 <= g x):0 <= (l.map g).sum:=by
 have:=J0b (g:=fun _=>0) h
 rwa [X0s] at this
theorem J4x {α:Type} {g:α -> Int}:∀ {l:List α} {a:α},a ∈ l -> (∀ x ∈ l,0 <= g x) -> g a <= (l.map g).sum
 | [],_,h,_=>absurd h (by simp)
 | x :: l,a,h,h0=>by
   rw [List.map_cons,List.sum_cons];have h1:=X4z (g:=g) (l:=l) fun y hy=>h0 y (List.mem_cons_of_mem _ hy)
   rcases List.mem_cons.1 h with e | e
   . subst e; omega
   . have:=J4x e fun y hy=>h0 y (List.mem_cons_of_mem _ hy)
     have:=h0 x List.mem_cons_self; omega
theorem Y4g (hv:Q0m s) (p:List Rul):0 <= Q6b s (X9b s p):=by
 refine X4z fun i hi=>?_;obtain ⟨k,hk,rfl⟩:=List.mem_map.1 hi;have:=(hv.weights k (List.mem_range.1 (List.mem_filter.1 hk).1)).1;show 0 <= Q0h s.members k;omega
theorem X9c (hf:Fine s) (p:List Rul):∃ x ∈ Q1v s,Q6b s (X9b s p) <= x.weight /\ x.closings <= Q3j s p /\ x.delay <= X1f s p:=by
 rw [<- Z4s hf,<- X5u hf,<- Y9j hf];exact X8q hf _
theorem X9z (x:Plan) (hx:x ∈ Q1v s):x.weight <= X7f s:=(X3m Plan.weight (Q1v s) 0).2.1 x hx
theorem Z9h (hf:Fine s) (p:List Rul):Q6b s (X9b s p) <= X7f s:=by
 obtain ⟨x,hx,e,-,-⟩:=X9c hf p;exact Int.le_trans e (X9z x hx)
theorem Y9m (hv:Q0m s):∃ x ∈ Q1v s,x.weight = X7f s:=by
 rcases (X3m Plan.weight (Q1v s) 0).2.2 with h | ⟨x,hx,h⟩
 . obtain ⟨x,hx,e,-,-⟩:=X9c hv.toFine []
   have h1:=Y4g hv [];have h2:=X9z x hx;have h3:X7f s = 0:=h;exact ⟨x,hx,by omega⟩
 . exact ⟨x,hx,h.symm⟩
theorem X7p (need:Int):Best need ((Q1v s).map tri) ((X0f s need).map fun x=>(x.closings,x.delay)) /\ ∀ x,X0f s need = some x -> x ∈ Q1v s /\ need <= x.weight:=by
 have:=X5a need (Q1v s) [] none (fun t ht=>absurd ht (by simp)) (fun x hx=>by cases hx)
 simpa [X0f] using this
theorem J1g (hv:Q0m s) (need:Int):(X0f s need).isSome = true ↔ need <= X7f s:=by
 obtain ⟨h1,h2⟩:=X7p (s:=s) need
 constructor
 . intro h
   obtain ⟨x,hx⟩:=Option.isSome_iff_exists.1 h;obtain ⟨k1,k2⟩:=h2 x hx;exact Int.le_trans k2 (X9z x k1)
 . intro h
   obtain ⟨x,hx,e⟩:=Y9m hv;cases hb:X0f s need with
   | some y=>rfl
   | none =>
     rw [hb] at h1;have:x.weight < need:=h1 (tri x) (List.mem_map.2 ⟨x,hx,rfl⟩);omega
theorem J2a {x:Plan} (h:X0f s (X7f s) = some x):x.weight = X7f s:=by
 obtain ⟨k1,k2⟩:=(X7p (s:=s) _).2 x h;exact Int.le_antisymm (X9z x k1) k2
theorem Z5u {need:Int} {x:Plan} (h:X0f s need = some x) (y:Plan) (hy:y ∈ Q1v s) (hn:need <= y.weight):x.closings < y.closings ∨ x.closings = y.closings /\ x.delay <= y.delay:=by
 have h1:=(X7p (s:=s) need).1;rw [h] at h1;exact h1.2 (tri y) (List.mem_map.2 ⟨y,hy,rfl⟩) hn
theorem Z2y (hv:Q0m s) {need:Int} (p:List Rul) (hn:need <= Q6b s (X9b s p)) :
    ∃ x,X0f s need = some x /\ (x.closings < Q3j s p ∨ x.closings = Q3j s p /\ x.delay <= X1f s p):=by
 obtain ⟨y,hy,e1,e2,e3⟩:=X9c hv.toFine p;obtain ⟨x,hx⟩:=Option.isSome_iff_exists.1 ((J1g hv need).2 (Int.le_trans hn (Int.le_trans e1 (X9z y hy))));refine ⟨x,hx,?_⟩;have:=Z5u hx y hy (by omega)
 omega
theorem Z8c:∀ l:List Bool,∃ n,n < 2 ^ l.length /\ Q7q n l.length = l:=by
 intro l;obtain ⟨n,hn,h⟩:=Q8r l.length fun i=>l.getD (l.length - 1 - i) false
 refine ⟨n,hn,?_⟩;unfold Q7q
 apply List.ext_getElem (by simp)
 intro i h1 h2;simp only [List.getElem_map,List.getElem_range];rw [h _ (by omega),Q0y _ (by omega)]
 congr 1
 omega
theorem Q6z (p:List Rul) (l:List Int):(Q0w p l).length = l.length:=by simp [Q0w]
theorem J2i (s:Q0b) (l:List Nat) (n:Nat) (hn:n < 2 ^ s.ships.length):Q9b s l n <= X3a s l :=
 (X3m (Q9b s l) (List.range (2 ^ s.ships.length)) 0).2.1 n (List.mem_range.2 hn)
end Go.Tw
namespace Go.Tw
variable {s:Q0b}
theorem J0t (m:Mem) (lim:Int) (c:List Bool):m.keeps lim c = true ↔ ∀ x ∈ m.Q8n c,x <= lim:=by
 unfold Mem.keeps;rw [Bool.not_eq_true',List.any_eq_false]
 constructor
 . intro h x hx; have:=h x hx; simp only [decide_eq_true_eq] at this; omega
 . intro h x hx; have:=h x hx; simp only [decide_eq_true_eq]; omega
theorem J3p (n t:Nat):(Q7q n t).length = t:=by simp [Q7q]
end Go.Tw
namespace Go.Proofs
open Go.RowKit Go.Tw Go.Flow
theorem Y2f (m:Mem) (l:List Bool) {k:Nat} (hk:k < l.length) (lv:Int):m.Q2i k lv (l.drop k) = (m.stepT k lv (bx l k)).1 :: m.Q2i (k + 1) (m.stepT k lv (bx l k)).2 (l.drop (k + 1)):=by
 rw [J5q hk]; rfl
theorem X4e (m:Mem):∀ (l:List Bool) (t:Nat) (lv:Int),(m.Q2i t lv l).length = l.length
 | [],_,_=>rfl
 | _ :: l,t,lv=>by
   unfold Mem.Q2i;rw [List.length_cons,List.length_cons,X4e m l]
theorem X2j (m:Mem) (l:List Bool):(m.Q8n l).length = l.length:=X4e m l 0 0
end Go.Proofs
namespace Go.Proofs
open Go.RowKit Go.Tw Go.Flow
theorem Z2c (w:World) (v:Value) (l:List Int) (g:Nat) (c:Value) (p:Int -> Bool) (hv:Q0e w v l) (eg:∀ args w,(callFunc g args).run Tryz.prog w = .ok (.enter g args) w)
    (hp:∀ W x,Ext w W -> x ∈ l -> Calls Tryz.prog g #[.int .i64 x,c] W fun e W'=>e = .returned (.bool (p x)) /\ Ext W W') :
    Calls Tryz.prog 198 #[v,.func (.func g) #[] #[c]] w fun e w'=>∃ r:Int,e = .returned (.int .i64 r) /\ decide (0 <= r) = l.any p /\ Ext w w':=by
 obtain ⟨A,cap,rfl,hl,hcap,hc⟩:=hv.opened;have HP:=Lib.hid hp;have HC:=Lib.hid hc;clear hv hp hc;go_enter Tryz.func198,Tryz.ntmps198;go_wp2
 go_loopw [8] (fun i wr=>∃ k:Nat,k <= l.length /\ i = .int .i64 k /\ (l.drop k).any p = l.any p /\ Ext w wr) (fun i _=>l.length - (intOf i).toNat)
 case atStart=>exact ⟨0,Nat.zero_le _,rfl,rfl,Ext.refl _⟩
 case round =>
  obtain ⟨k,hk,rfl,hr,hx⟩:=hrel;have HR:=Lib.hid hr; clear hr
  by_cases hlt:k < l.length
  . obtain ⟨b,off,rfl,hcell⟩:=HC.out k hlt
    replace hcell:=hx.cell hcell;have hmem:ix l k ∈ l:=by rw [Q5p hlt]; exact List.getElem_mem hlt
    have hd:=Q3q hlt;have HST:Hid (l.any p = (p (ix l k) || (l.drop (k + 1)).any p)):=Lib.hid (by rw [<- HR.out,hd,List.any_cons])
    obtain ⟨y,hy⟩:∃ y,ix l k = y:=⟨_,rfl⟩;have HPY:=Lib.hid (HP.out wr (ix l k) hx hmem);rw [hy] at HPY hcell HST;obtain ⟨q,hq⟩:∃ q,p y = q:=⟨_,rfl⟩;rw [hq] at HPY HST;clear hq hy hd hmem;cases q with
    | true =>
      go_wp2_with (refine HPY.out.mono ?_; rintro e w9 ⟨rfl,hx9⟩);go_ret;exact ⟨k,rfl,by rw [HST.out]; simp,hx.trans hx9⟩
    | false =>
      go_wp2_with (refine HPY.out.mono ?_; rintro e w9 ⟨rfl,hx9⟩);go_roundw
      case rel=>exact ⟨k + 1,by omega,by go_num,by rw [HST.out,Bool.false_or],hx.trans hx9⟩
      case measure=>simp [intOf]; omega
  . go_wp2
    go_ret;exact ⟨-1,rfl,by rw [<- HR.out,List.drop_eq_nil_of_le (by omega)]; rfl,hx⟩
theorem Y1t (w:World) (v:Value) (l:List Int) (g:Nat) (c:Value) (p:Int -> Bool) (hv:Q0e w v l) (eg:∀ args w,(callFunc g args).run Tryz.prog w = .ok (.enter g args) w)
    (hp:∀ W x,Ext w W -> x ∈ l -> Calls Tryz.prog g #[.int .i64 x,c] W fun e W'=>e = .returned (.bool (p x)) /\ Ext W W') :
    Calls Tryz.prog 167 #[v,.func (.func g) #[] #[c]] w fun e w'=>e = .returned (.bool (l.any p)) /\ Ext w w':=by
 have HI:=Lib.hid (Z2c w v l g c p hv eg hp);obtain ⟨A,cap,rfl,hl,hcap,hc⟩:=hv.opened;obtain ⟨q,hq⟩:∃ q,l.any p = q:=⟨_,rfl⟩;rw [hq] at HI ⊢;clear hv hc hp hq;go_enter Tryz.func167,Tryz.ntmps167;go_wp2_with (go_at_call 198; refine HI.out.mono ?_; rintro e w' ⟨r,rfl,hr,hx⟩; have HR:=Lib.hid hr; clear hr);go_ret;exact ⟨Q0z HR.out,hx⟩
def Y1s (w:World) (v:Value) (m:Mem):Prop:=∃ x y z,v = .agg #[.string m.name,.int .i64 m.weight,x,y,z] /\ Q0e w x m.classes /\ Q0e w y m.outside /\ Q0e w z m.inflow
theorem Y1s.ext {w w':World} {v:Value} {m:Mem} (h:Y1s w v m) (hx:Ext w w'):Y1s w' v m:=let ⟨x,y,z,e,h1,h2,h3⟩:=h; ⟨x,y,z,e,h1.ext hx,h2.ext hx,h3.ext hx⟩
structure OkM (m:Mem) (n:Nat):Prop where
 out:n <= m.outside.length
 inf:n <= m.inflow.length
 bd:∀ k,k < m.inflow.length -> 0 <= ix m.inflow k /\ ix m.inflow k <= 1024
theorem Y9e (w:World) (v:Value) (m:Mem) (t:Nat) (n:Int) (c:Bool) (hv:Y1s w v m) (ho:t < m.outside.length) (hi:t < m.inflow.length) (hn:0 <= n /\ n <= 100000) (hb:0 <= ix m.inflow t /\ ix m.inflow t <= 1024) :
    Calls Tryz.prog 97 #[v,.int .i64 (t:Int),.int .i64 n,.bool c] w fun e w'=>e = .returned (.tuple #[.int .i64 (m.stepT t n c).1,.int .i64 (m.stepT t n c).2]) /\ Ext w w':=by
 obtain ⟨x,y,z,rfl,hx,hy,hz⟩:=hv;obtain ⟨X,capx,rfl,-,-,-⟩:=hx.opened;obtain ⟨Y,capy,rfl,-,-,hcY⟩:=hy.opened;obtain ⟨Z,capz,rfl,-,-,hcZ⟩:=hz.opened;obtain ⟨by',oy,rfl,hcy⟩:=hcY t ho
 obtain ⟨bz,oz,rfl,hcz⟩:=hcZ t hi;have hbox:=Ext.box w (.cells #[.string m.name,.int .i64 m.weight,.slice X m.classes.length capx,.slice (some ⟨by',oy,none⟩) m.outside.length capy,.slice (some ⟨bz,oz,none⟩) m.inflow.length capz] 90)
 have K0:=Blk.made w 90 #[.string m.name,.int .i64 m.weight,.slice X m.classes.length capx,.slice (some ⟨by',oy,none⟩) m.outside.length capy,.slice (some ⟨bz,oz,none⟩) m.inflow.length capz]
 have c0:=(K0).cell 0;have c1:=(K0).cell 1;have c2:=(K0).cell 2;have c3:=(K0).cell 3;have c4:=(K0).cell 4;simp only [Go.Tw.gA,Go.Tw.gB,Go.Tw.gC] at c0 c1 c2 c3 c4;replace hcy:=hbox.cell hcy;replace hcz:=hbox.cell hcz;have htO:(t:Int) < m.outside.length:=by omega
 have htI:(t:Int) < m.inflow.length:=by omega
 clear hx hy hz hcY hcZ K0;cases c with
 | true =>
   have HS:Hid (m.stepT t n true = (n + ix m.inflow t,n + ix m.inflow t)):=Lib.hid rfl;have hwr:IntKind.i64.wrap (n + ix m.inflow t) = n + ix m.inflow t:=Q2q _ (by omega) (by omega)
   rw [HS.out];obtain ⟨d,hd⟩:∃ d,ix m.inflow t = d:=⟨_,rfl⟩;rw [hd] at hcz hwr ⊢;clear hd hb;go_enter Tryz.func97,Tryz.ntmps97;go_wp2;go_ret2;exact ⟨rfl,hbox⟩
 | false =>
   have HS:Hid (m.stepT t n false = (ix m.outside t,0)):=Lib.hid rfl;rw [HS.out];clear hb;go_enter Tryz.func97,Tryz.ntmps97;go_wp2;go_ret2;exact ⟨rfl,hbox⟩
theorem Z5c {m:Mem} {t:Nat} {n:Int} {c:Bool} {k:Nat} (hn:0 <= n /\ n <= 1024 * k) (hb:0 <= ix m.inflow t /\ ix m.inflow t <= 1024):0 <= (m.stepT t n c).2 /\ (m.stepT t n c).2 <= 1024 * ((k + 1:Nat):Int):=by
 unfold Mem.stepT;cases c with
 | true=>simp only [if_true]; omega
 | false=>simp only [Bool.false_eq_true,if_false]; omega
theorem Y3p (w:World) (v u:Value) (m:Mem) (l:List Bool) (hv:Y1s w v m) (hu:Q2k w u l) (hl9:l.length <= 9) (hm:OkM m l.length) :
    Calls Tryz.prog 49 #[v,u] w fun e w'=>∃ x,e = .returned x /\ Q0e w' x (m.Q8n l) /\ Ext w w':=by
 obtain ⟨i0,hi,hz0,hz1,hz2⟩:=info_parts Tryz.info3;have HV:=Lib.hid hv;obtain ⟨x,y,z,rfl,hx,hy,hz⟩:=hv;obtain ⟨X,capx,rfl,-,-,-⟩:=hx.opened;obtain ⟨Y,capy,rfl,-,-,-⟩:=hy.opened;obtain ⟨Z,capz,rfl,-,-,-⟩:=hz.opened;obtain ⟨U,capu,rfl,-,-,hcU⟩:=hu.opened;have HCU:=Lib.hid hcU;have HM:=Lib.hid hm;clear hx hy hz hcU hu hm;go_enter Tryz.func49,Tryz.ntmps49;go_wp2_with fail;change Code.wp _ _ _ _ (w.alloc (.cells #[.string m.name,.int .i64 m.weight,.slice X m.classes.length capx,.slice Y m.outside.length capy,.slice Z m.inflow.length capz] 90));obtain ⟨W,hWW,k0,HXW,eW⟩:=Q2y w 90 #[.string m.name,.int .i64 m.weight,.slice X m.classes.length capx,.slice Y m.outside.length capy,.slice Z m.inflow.length capz];rw [hWW];clear hWW;have K0:=Lib.hid k0;clear k0
 go_loopw [5,6,13] (fun o lv t wr=>∃ (k:Nat) (n:Int) (pk:List Int),k <= l.length /\ t = .int .i64 k /\ lv = .int .i64 n /\ (0 <= n /\ n <= 1024 * k) /\ pk.length = k /\ pk ++ m.Q2i k n (l.drop k) = m.Q8n l /\ Q0i wr W.heap.size 3 (.int .i64) o pk /\ Ext W wr) (fun _ _ t _=>l.length - (intOf t).toNat)
 case atStart=>exact ⟨0,0,[],Nat.zero_le _,rfl,rfl,⟨Int.le_refl _,by omega⟩,rfl,rfl,Q0i.nil _ _ _ _,Ext.refl _⟩
 case round =>
  obtain ⟨k,n,pk,hk,rfl,rfl,hn,hpk,hr,hown,hx⟩:=hrel;have HR:=Lib.hid hr;have HN:=Lib.hid hn;have HPK:=Lib.hid hpk;clear hr
  by_cases hlt:k < l.length
  . obtain ⟨bu,ou,rfl,-,hcu⟩:=HCU.out k hlt
    replace hcu:=(HXW.out.trans hx).cell hcu;have hst:=Y2f m l hlt n;have hbd:=HM.out.bd k (by have:=HM.out.inf; omega)
    have HLB:=Lib.hid (Z5c (c:=bx l k) hn hbd);have HCALL:=Lib.hid (fun wr (hx:Ext w wr)=>Y9e wr _ m k n (bx l k) (HV.out.ext hx) (by have:=HM.out.out; omega) (by have:=HM.out.inf; omega) ⟨hn.1,by omega⟩ hbd)
    obtain ⟨c,hc⟩:∃ c,bx l k = c:=⟨_,rfl⟩;rw [hc] at hcu hst HLB HCALL;obtain ⟨P,hP⟩:∃ P,(m.stepT k n c).1 = P:=⟨_,rfl⟩;obtain ⟨Q,hQ⟩:∃ Q,(m.stepT k n c).2 = Q:=⟨_,rfl⟩;rw [hP,hQ] at hst HCALL;rw [hQ] at HLB;have HST:=Lib.hid hst;have c0:=(K0.out.ext hx).cell 0;have c1:=(K0.out.ext hx).cell 1;have c2:=(K0.out.ext hx).cell 2;have c3:=(K0.out.ext hx).cell 3;have c4:=(K0.out.ext hx).cell 4;simp only [Go.Tw.gA,Go.Tw.gB,Go.Tw.gC] at c0 c1 c2 c3 c4;have hkI:(k:Int) < l.length:=by omega
    have HXX:=Lib.hid hx;have HOW:=Lib.hid hown;have hll:pk.length <= 4096:=by omega
    clear hst hP hQ hc hn hbd hown hpk hx
    go_light
    go_wp2_with (first | (go_at_call 97; refine (HCALL.out _ (HXW.out.trans HXX.out)).mono ?_; rintro e w5 ⟨rfl,hx5⟩; have hown:=HOW.out.below hx5; have hx6:=HXX.out.trans hx5) | (at_builtin; refine wpList_append_own _ rfl _ _ 44 rfl (W.heap.size) 3 i0 (.int .i64 0) 1 8 Tryz.underlying44 hi hz0 hz1 hz2 rfl (by decide) _ _ _ rfl (World.ownsRow.alloc hown _) ⟨w5.heap.size,0,none⟩ 1 1 [.int .i64 P] rfl rfl ?_ ?_ ?_ ?_ ?_ ?_; exact Q4p _ _ _; (focus (simp [Value.oneCell'])); (focus (unfold maxLen; omega)); (focus omega); (focus (have:=hx6.size; simp at this ⊢; omega)); intro v' w1 hown' hgrow _))
    have hx2:=Q3b hx6 hown (Nat.le_refl _) hgrow;go_roundw
    case rel=>exact ⟨k + 1,Q,pk ++ [P],by omega,by go_num,rfl,HLB.out,by rw [List.length_append,HPK.out]; rfl,by rw [<- HR.out,HST.out]; simp,Q0i.snoc hown',hx2⟩
    case measure=>simp [intOf]; omega
  . have HF:Hid (pk = m.Q8n l):=Lib.hid (by rw [<- HR.out,List.drop_eq_nil_of_le (by omega)]; simp [Mem.Q2i])
    go_wp2;go_ret;exact ⟨_,rfl,by rw [<- HF.out]; exact hown.ints (by omega),HXW.out.trans hx⟩
theorem Z1y (W:World) (x lim:Int) (B:Nat) (hB:W.cell? ⟨B,0,none⟩ = some (.int .i64 lim)) :
    Calls Tryz.prog 168 #[.int .i64 x,.pointer (some ⟨B,0,none⟩)] W fun e W'=>e = .returned (.bool (decide (lim < x))) /\ Ext W W':=by
 go_enter Tryz.func168,Tryz.ntmps168;go_wp2;go_ret;exact ⟨rfl,Ext.refl _⟩
theorem Z7f (w:World) (v u:Value) (m:Mem) (lim:Int) (l:List Bool) (hv:Y1s w v m) (hu:Q2k w u l) (hl9:l.length <= 9) (hm:OkM m l.length) :
    Calls Tryz.prog 121 #[v,.int .i64 lim,u] w fun e w'=>e = .returned (.bool (m.keeps lim l)) /\ Ext w w':=by
 have HV:=Lib.hid hv;obtain ⟨x,y,z,rfl,hx,hy,hz⟩:=hv;obtain ⟨X,capx,rfl,-,-,-⟩:=hx.opened;obtain ⟨Y,capy,rfl,-,-,-⟩:=hy.opened;obtain ⟨Z,capz,rfl,-,-,-⟩:=hz.opened;have HU:=Lib.hid hu;obtain ⟨U,capu,rfl,-,-,-⟩:=hu.opened;have HM:=Lib.hid hm;have HKE:Hid (m.keeps lim l = !((m.Q8n l).any fun x=>decide (lim < x))):=Lib.hid rfl;have HPL:=Lib.hid (X2j m l);clear hx hy hz hu hm;go_enter Tryz.func121,Tryz.ntmps121;go_wp2_with fail;change Calls _ _ _ ((w.alloc (.cells #[.string m.name,.int .i64 m.weight,.slice X m.classes.length capx,.slice Y m.outside.length capy,.slice Z m.inflow.length capz] 90)).alloc (.cells #[.int .i64 lim] 3)) _;obtain ⟨W,hWW,k0,k1,HXW,eW⟩:=Q6u w 90 #[.string m.name,.int .i64 m.weight,.slice X m.classes.length capx,.slice Y m.outside.length capy,.slice Z m.inflow.length capz] 3 #[.int .i64 lim];rw [hWW];clear hWW;have K1:=Lib.hid k1;clear k0 k1;refine (Y3p _ _ _ m l (HV.out.ext HXW.out) (HU.out.ext HXW.out) hl9 HM.out).mono ?_;rintro e w5 ⟨pv,rfl,hp,hx5⟩;have HCF:=Lib.hid (Y1t w5 pv (m.Q8n l) 168 (.pointer (some ⟨w.heap.size + 1,0,none⟩)) (fun x=>decide (lim < x)) hp (enters_of Tryz.func168 (by kernel_rfl) rfl) (fun W' x hx _=>Z1y W' x lim _ ((K1.out.ext (hx5.trans hx)).cell 0)))
 obtain ⟨q,hq⟩:∃ q,((m.Q8n l).any fun x=>decide (lim < x)) = q:=⟨_,rfl⟩
 rw [hq] at HCF HKE;obtain ⟨P,capp,rfl,-,-,-⟩:=hp.opened;have HX5:=Lib.hid (HXW.out.trans hx5);clear hp hx5 hq;go_wp2_with (go_at_call 167; refine HCF.out.mono ?_; rintro e w6 ⟨rfl,hx6⟩);go_ret;exact ⟨Q0z HKE.out.symm,HX5.out.trans hx6⟩
end Go.Proofs
namespace Go.Tw
open Go.RowKit Go.Flow
def Off (O:Nat) (w w':World):Prop:=Below O w w' /\ w.heap.size <= w'.heap.size /\ ∀ b,b < w.heap.size -> b ≠ O -> w'.heap[b]? = w.heap[b]?
theorem Off.refl (O:Nat) (w:World):Off O w w:=⟨Below.refl _ _,Nat.le_refl _,fun _ _ _=>rfl⟩
theorem Off.ext {O:Nat} {a b c:World} (h:Off O a b) (hx:Ext b c) (hO:O <= b.heap.size):Off O a c :=
 ⟨h.1.trans (hx.mono hO),Nat.le_trans h.2.1 hx.size,fun k hk hne=>(Below.block hx k (Nat.lt_of_lt_of_le hk h.2.1)).trans (h.2.2 k hk hne)⟩
theorem Off.grown {O base n size:Nat} {e:TypeId} {v:Value} {xs:List Value} {a b c:World} (h:Off O a b) (hown:b.ownsRow base e size v n xs) (hb:a.heap.size <= base) (hO:O <= a.heap.size) (hg:b.grownBy c v.ownBlock):Off O a c:=by
 have hbel:Below O b c:=Below.grown (Below.refl _ _) hg (Nat.le_trans hO h.2.1) (fun k hk=>by have:=(hown.lt k hk).1; omega)
 have hbel2:Below a.heap.size b c:=Below.grown (Below.refl _ _) hg h.2.1 (fun k hk=>by have:=(hown.lt k hk).1; omega)
 exact ⟨h.1.trans hbel,Nat.le_trans h.2.1 hbel2.size,fun k hk hne=>(hbel2.block k hk).trans (h.2.2 k hk hne)⟩
theorem Off.set {O:Nat} {a b:World} (h:Off O a b) (k:Nat) (u:Value):Off O a (b.setCell ⟨O,k,none⟩ u) :=
 ⟨h.1.setCell (p:=⟨O,k,none⟩) (Nat.le_refl _) u,by simpa using h.2.1,fun j hj hne=>(Below.heap_setCell _ _ _ _ hne).trans (h.2.2 j hj hne)⟩
theorem Q0u.off {α:Type} {w w':World} {base O k:Nat} {e:TypeId} {enc:α -> List Value} {v:Value} {l:List α} (h:Q0u w base e k enc v l) (hO:O < base) (hx:Off O w w'):Q0u w' base e k enc v l:=by
 obtain ⟨h1,h2⟩:=h;refine ⟨h1,?_⟩
 rcases h2 with h2 | ⟨g,cap,cur,hv,hb,hg,r⟩
 . exact .inl h2
 . exact .inr ⟨g,cap,cur,hv,hb,by rw [hx.2.2 g (Array.getElem?_eq_some_iff.1 hg).1 (by omega)]; exact hg,r⟩
theorem Q0u.setCell {α:Type} {w:World} {base k:Nat} {e:TypeId} {enc:α -> List Value} {v:Value} {l:List α} (h:Q0u w base e k enc v l) {p:Addr} (hp:p.block < base) (u:Value):Q0u (w.setCell p u) base e k enc v l :=
 h.only hp (Q9z w p u)
theorem Q2j {w w':World} {v cv:Value} {l:List Int} {base n size:Nat} {T e:TypeId} {xs:List Value} (h:Q0i w 0 T (Value.int .i64) v l) (hown:w.ownsRow base e size cv n xs) (he:e ≠ T) (hg:w.grownBy w' cv.ownBlock):Q0i w' 0 T (Value.int .i64) v l:=by
 obtain ⟨h1,h2⟩:=h;refine ⟨h1,?_⟩
 rcases h2 with h2 | ⟨g,cap,cur,hv,hb,hgl,r⟩
 . exact .inl h2
 . refine .inr ⟨g,cap,cur,hv,hb,?_,r⟩
   rw [hg.block g (Array.getElem?_eq_some_iff.1 hgl).1 ?_]; exact hgl;intro e'
   rcases hown.2 with ⟨rfl,_⟩ | ⟨g',_,cur',rfl,_,hg',_⟩
   . cases e'
   . have e2:g = g':=by simpa [Value.ownBlock] using e'
     rw [e2,hg'] at hgl;injection hgl with hgl;injection hgl with _ h3 _;exact he h3
theorem Q6f {w w':World} {cv:Value} {base n size g:Nat} {T e:TypeId} {cs:Array Value} {xs:List Value} (h:Blk w g T cs) (hown:w.ownsRow base e size cv n xs) (hb:g < base) (hg:w.grownBy w' cv.ownBlock):Blk w' g T cs:=by
 unfold Blk at *;rw [hg.block g (Array.getElem?_eq_some_iff.1 h).1 ?_]; exact h;intro e';have:=(hown.lt g e'.symm).1;omega
theorem Q4y {w:World} {v u:Value} {l:List Int} {O k:Nat} {T S:TypeId} {cs:Array Value} (h:Q0i w 0 T (Value.int .i64) v l) (hb:Blk w O S cs) (hT:S ≠ T):Q0i (w.setCell ⟨O,k,none⟩ u) 0 T (Value.int .i64) v l:=by
 obtain ⟨h1,h2⟩:=h;refine ⟨h1,?_⟩
 rcases h2 with h2 | ⟨g,cap,cur,hv,hbb,hgl,r⟩
 . exact .inl h2
 . refine .inr ⟨g,cap,cur,hv,hbb,?_,r⟩
   rw [Below.heap_setCell _ _ _ _ ?_]; exact hgl;intro e';have e2:g = O:=e';unfold Blk at hb;rw [e2,hb] at hgl;injection hgl with hgl;injection hgl with _ h3 _;exact hT h3
theorem Q0u.rowsOf {α β:Type} {w:World} {base:Nat} {e:TypeId} {k:Nat} {enc:α -> List Value} {v:Value} {L:List α} {l:List β} {R:World -> (Nat -> Value) -> β -> Prop} (h:Q0u w base e k enc v L) (hlen:L.length = l.length) (hl:l.length <= 17592186043904)
    (hk:∀ x,(enc x).length = k) (hR:∀ j (h1:j < L.length) (h2:j < l.length),R w (fun i=>((enc L[j])[i]?).getD undef) l[j]) (hloc:∀ c c' x,(∀ i,i < k -> c i = c' i) -> R w c x -> R w c' x):Go.Tw.Rows k R w v l:=by
 refine ⟨fun j=>((L.flatMap enc)[j]?).getD undef,?_,fun j hj=>hloc _ _ _ (fun i hi=>?_) (hR j (by omega) hj)⟩
 . obtain ⟨_,h2⟩:=h
   rw [hlen] at h2
   rcases h2 with ⟨rfl,h0⟩ | ⟨g,cap,cur,rfl,_,hg,hcap,_,_,htake⟩
   . exact ⟨none,0,by rw [h0],hl,by omega,fun j hj=>by rw [h0,Nat.zero_mul] at hj; omega⟩
   . refine ⟨some ⟨g,0,none⟩,cap,rfl,hl,hcap,fun j hj=>⟨g,0,rfl,?_⟩⟩
     rw [Nat.zero_add];have h1:=congrArg (fun l=>l[j]?) htake;simp only [List.getElem?_take,hj,if_true] at h1;have hlt:j < (L.flatMap enc).length:=by rw [X2u hk,hlen]; exact hj
     rw [List.getElem?_eq_getElem hlt] at h1;simp only [World.cell?,hg,List.getElem?_eq_getElem hlt,Option.getD_some]
     simpa using h1
 . show ((enc L[j])[i]?).getD undef = ((L.flatMap enc)[j * k + i]?).getD undef
   rw [flat_get hk L j i (by omega) hi]
theorem Q2t {α:Type} {P:Program} {K:Value -> World -> Prop} {o:Oper} {a:Act} {w:World} (s x:Operand) (t:TypeId) (ho:o.op = .call { callee:=.builtin .append,args:=#[s,x],argTypes:=#[t,t] })
    (base:Nat) (e:TypeId) (i:TypeInfo) (z:Value) (k bytes:Nat) (ht:P.underlying t = some (.slice e)) (hi:P.info? e = some i) (hz:i.zero = some z) (hsize:i.size = k) (hby:i.bytes = bytes) (hzs:z.cells.size = k) (hk0:0 < k)
    (enc:α -> List Value) (hk:∀ x,(enc x).length = k) (v:Value) (xs:List α) (y:α) (hs:a.eval s = v) (hown:Q0u w base e k enc v xs) (ad:Addr) (c:Nat) (hx:a.eval x = .slice (some ad) 1 c)
    (hnews:∀ j u,(enc y)[j]? = some u -> w.cell? (ad.add j) = some u) (h1:∀ u ∈ enc y,u.oneCell' = true)
    (h63:xs.length + 1 <= 100000) (hb:bytes <= 1000) (hbase:base <= w.heap.size)
    (h:∀ v' w',Q0u w' base e k enc v' (xs ++ [y]) -> w.grownBy w' v.ownBlock -> K v' w'):gives P K ((execOp a.eval o).run P w):=by
 obtain ⟨v',w',hr,h2,h3,h4⟩:=run_append_own (P:=P) w base t o.type e i z k bytes ht hi hz hsize hby hzs hk0 v xs.length (xs.flatMap enc) hown ad 1 c (enc y) (by rw [hk]; omega) hnews h1 (by unfold maxLen; omega) (by
     have:(xs.length + 1) * bytes <= 100000 * 1000:=Nat.mul_le_mul h63 hb;omega) hbase
 unfold execOp;simp only [ho,resolve,invoke,builtin,Sem.run_bind,Sem.run_pure,Result.andThen_ok,List.map_toArray,List.map_cons,List.map_nil,hs,hx,hr];exact h v' w' (Q0u.snoc h2) h3
theorem Q5k {w:World} {g:Nat} {T:TypeId} {xs:List Value} (h:Blk w g T xs.toArray):∀ j u,xs[j]? = some u -> w.cell? ((⟨g,0,none⟩:Addr).add j) = some u:=by
 intro j u hu;rw [addr_add,Nat.zero_add,h.cell]
 simpa using hu
end Go.Tw
