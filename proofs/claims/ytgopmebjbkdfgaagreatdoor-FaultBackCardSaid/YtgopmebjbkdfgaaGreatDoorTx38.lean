/- Contract of the reference's Text, below 100. Contract of the reference's line. Contract of the reference's Print, at a valid tree. -/
import Derived.Test.YtgopmebjbkdfgaaGreatDoorTx24
import Derived.Laws.IdiomStrings
import Derived.Test.YtgopmebjbkdfgaaGreatDoorTx37
import Derived.Test.YtgopmebjbkdfgaaGreatDoorTx25
set_option maxRecDepth 1000000
set_option maxHeartbeats 64000000
set_option linter.unusedVariables false
set_option linter.unusedSimpArgs false
set_option linter.constructorNameAsVariable false
namespace Go.Proofs
open Go.RowKit Go.Tw Go.Flow
theorem Q7u {n:Nat} (h:n < 10):Q3l n = ⟨#[UInt8.ofNat (48 + n)]⟩:=by
 unfold Q3l;rw [Int.toNat_natCast];unfold Lib.decDigits;rw [dif_pos h]
theorem Y1l {n:Nat} (h:10 <= n) (h2:n < 100):Q3l n = Q3l (n / 10:Nat) ++ Q3l (n % 10:Nat):=by
 rw [Q7u (show n / 10 < 10 by omega),Q7u (show n % 10 < 10 by omega)]
 unfold Q3l;rw [Int.toNat_natCast];unfold Lib.decDigits;rw [dif_neg (by omega)]
 unfold Lib.decDigits;rw [dif_pos (by omega)]
 apply ByteArray.ext
 rw [ByteArray.data_append];simp
theorem X9o (w:World) {n:Nat} (h:n < 10):(convert 122 9 (.slice (some ⟨w.heap.size,0,none⟩) 1 1)).run Tryz.prog (w.alloc (.cells #[.int .u8 (48 + (n:Int))] 5)) = .ok (.string (Q3l n)) (w.alloc (.cells #[.int .u8 (48 + (n:Int))] 5)):=by
 have:=run_convert_bytes_back (P:=Tryz.prog) (w.alloc (.cells #[.int .u8 (48 + (n:Int))] 5)) 122 9 5 ⟨w.heap.size,0,none⟩ 1 [UInt8.ofNat (48 + n)] (by kernel_rfl) (by kernel_rfl) (by kernel_rfl) (fun j hj=>by
  have e:j = 0:=by simpa using hj
  subst e;rw [addr_add,World.cell?_alloc_at _ _ _ _ rfl];have e2:(UInt8.ofNat (48 + n)).toNat = 48 + n:=by rw [UInt8.toNat_ofNat']; omega
  simp only [List.getElem_cons_zero,e2];rw [Int.natCast_add];rfl)
 rw [Q7u h];exact this
theorem X8v (w:World) (n:Nat) (h:n < 10):Calls Tryz.prog 17 #[.int .i64 (n:Int)] w fun e w'=>e = .returned (.string (Q3l n)) /\ Ext w w':=by
 have h1:¬ (9:Int) < (n:Int):=by omega
 have h2:¬ (n:Int) < (-9:Int):=by omega
 have h3:¬ (n:Int) < (0:Int):=by omega
 have hw:IntKind.i64.wrap (48 + (n:Int)) = 48 + n:=Q3v _ (by omega) (by omega)
 have hc:=X9o w h;go_enter Tryz.func17,Tryz.ntmps17;go_wp2;go_ret;exact ⟨rfl,Ext.box _ _⟩
theorem X7b {n:Nat} (h:n < 100):(Q3l n).size <= 2:=by
 by_cases h1:n < 10
 . rw [Q7u h1]; show 1 <= 2; omega
 . rw [Y1l (by omega) h,ByteArray.size_append,Q7u (show n / 10 < 10 by omega),Q7u (show n % 10 < 10 by omega)]
   show 1 + 1 <= 2;omega
theorem Z3s (w:World) (x:Int) (h0:0 <= x) (h:x < 100):Calls Tryz.prog 17 #[.int .i64 x] w fun e w'=>e = .returned (.string (Q3l x)) /\ Ext w w':=by
 obtain ⟨n,rfl⟩:∃ n:Nat,x = n:=⟨x.toNat,by omega⟩
 by_cases h1:n < 10
 . exact X8v w n h1
 . have hg:(9:Int) < (n:Int):=by omega
   have hq:(n:Int).tdiv 10 = ((n / 10:Nat):Int):=(Int.ofNat_tdiv n 10).symm;have hr:(n:Int).tmod 10 = ((n % 10:Nat):Int):=(Int.ofNat_tmod n 10).symm;obtain ⟨a,ha⟩:∃ a,n / 10 = a:=⟨_,rfl⟩;obtain ⟨b,hb⟩:∃ b,n % 10 = b:=⟨_,rfl⟩;have hS:=Lib.hid (Y1l (show 10 <= n by omega) (by omega))
   have hal:a < 10:=by omega
   have hbl:b < 10:=by omega
   have HA:=Lib.hid hal;have HB:=Lib.hid hbl;have hs:¬ 9223372036854775807 < (Q3l a).size + (Q3l b).size:=by
    have:=X7b (n:=a) (by omega)
    have:=X7b (n:=b) (by omega)
    omega
   rw [ha,hb] at hS;rw [ha] at hq;rw [hb] at hr;clear ha hb h0 h h1;go_enter Tryz.func17,Tryz.ntmps17;go_wp2_with fail;refine (X8v _ a HA.out).mono ?_;rintro e w1 ⟨rfl,hx⟩;go_wp2_with fail;refine (X8v _ b HB.out).mono ?_;rintro e w2 ⟨rfl,hx2⟩;go_wp2;go_ret;exact ⟨by rw [hS.out]; rfl,hx.trans hx2⟩
end Go.Proofs
namespace Go.Proofs
open Go.RowKit Go.Tw Go.Flow
def lnS (s:ByteArray) (l:List Int):ByteArray:=⟨(dat s ++ (l.map fun x=>32 :: dat (Q3l x)).flatten).toArray⟩
theorem Q7n (a b:ByteArray):dat (a ++ b) = dat a ++ dat b:=by
 unfold dat;rw [ByteArray.data_append,Array.toList_append]
theorem Z8w (l:List UInt8):dat ⟨l.toArray⟩ = l:=rfl
theorem Y5a (s:ByteArray) (l:List Int):dat (lnS s l) = dat s ++ (l.map fun x=>32 :: dat (Q3l x)).flatten:=rfl
theorem Z6u (s:ByteArray):lnS s [] = s:=by
 apply Q8p
 rw [Y5a];simp
theorem Z3i (s:ByteArray) (l:List Int) (x:Int):lnS s (l ++ [x]) = lnS s l ++ ⟨#[32]⟩ ++ Q3l x:=by
 apply Q8p
 rw [Q7n,Q7n,Y5a,Y5a,List.map_append,List.flatten_append];have e:dat ⟨#[32]⟩ = [32]:=rfl;rw [e];simp
theorem Z3z (a b:ByteArray) (l:List Int):lineS a b l = lnS (a ++ spS ++ b) l ++ nlS:=by
 apply Q8p
 unfold lineS;rw [Q7n,Q7n]
 congr 1
 unfold X1p Q6f;rw [Y5a,Z8w,List.map_cons,List.map_cons,Lib.join_cons,Q7n,Q7n];unfold Lib.joinTail;have e:spS.data.toList = [32]:=rfl;have e2:dat spS = [32]:=rfl;rw [e,e2];simp only [List.map_cons,List.map_map,List.flatten_cons,List.append_assoc];rfl
theorem Z4c (s:ByteArray):∀ (l:List Int),(∀ x ∈ l,0 <= x /\ x < 100) -> (lnS s l).size <= s.size + 3 * l.length:=by
 intro l hl;have h:∀ l:List Int,(∀ x ∈ l,0 <= x /\ x < 100) -> ((l.map fun x=>32 :: dat (Q3l x)).flatten).length <= 3 * l.length:=by
  intro l
  induction l with
  | nil=>intro _; simp
  | cons x r ih =>
    intro hl;have h1:=ih fun y hy=>hl y (List.mem_cons_of_mem _ hy);have h2:=Q9z (hl x (List.mem_cons_self ..)).1 (hl x (List.mem_cons_self ..)).2;have h3:(dat (Q3l x)).length = (Q3l x).size:=Array.length_toList;simp only [List.map_cons,List.flatten_cons,List.length_append,List.length_cons];omega
 have h1:=h l hl;have h2:(dat s).length = s.size:=Array.length_toList;have h3:(lnS s l).size = (dat s ++ (l.map fun x=>32 :: dat (Q3l x)).flatten).length:=by unfold lnS; show (List.toArray _).size = _; simp
 rw [h3,List.length_append];omega
theorem Y9w (w:World) (s:ByteArray) (v:Value) (l:List Int) (hv:Q0e w v l) (hl:l.length <= 1000) (hm:∀ x ∈ l,0 <= x /\ x < 100) (hs:s.size <= 1000) :
    Calls Tryz.prog 85 #[.string s,v] w fun e w'=>e = .returned (.string (lnS s l ++ nlS)) /\ Ext w w':=by
 obtain ⟨A,cap,rfl,_,hcap,hc⟩:=hv.opened;have HC:=Lib.hid hc;have HM:=Lib.hid hm;clear hv hc hm;go_enter Tryz.func85,Tryz.ntmps85;go_wp2
 go_loopw [0,5] (fun c i wr=>∃ (k:Nat),k <= l.length /\ i = .int .i64 k /\ c = .string (lnS s (l.take k)) /\ Ext w wr) (fun _ i _=>l.length - (intOf i).toNat)
 case atStart=>exact ⟨0,Nat.zero_le _,rfl,by rw [List.take_zero,Z6u],Ext.refl _⟩
 case round =>
  obtain ⟨k,hk,rfl,rfl,hx⟩:=hrel;have hsz:=Z4c s (l.take k) (fun x hx=>HM.out x (List.mem_of_mem_take hx));rw [List.length_take] at hsz;have hsz2:(lnS s (l.take k)).size <= 4000:=by omega
  by_cases hlt:k < l.length
  . obtain ⟨b,off,rfl,hcell⟩:=HC.out k hlt
    replace hcell:=hx.cell hcell;have HST:Hid (lnS s (l.take (k + 1)) = lnS s (l.take k) ++ ⟨#[32]⟩ ++ Q3l (ix l k)):=Lib.hid (by rw [List.take_succ_eq_append_getElem hlt,Z3i,Q6t hlt])
    have hmm:=HM.out (ix l k) (by rw [Q6t hlt]; exact List.getElem_mem hlt)
    have his:=Q9z hmm.1 hmm.2;obtain ⟨y,hy⟩:∃ y,ix l k = y:=⟨_,rfl⟩;rw [hy] at hcell HST hmm his;obtain ⟨c,hcc⟩:∃ c,lnS s (l.take k) = c:=⟨_,rfl⟩;rw [hcc] at hsz2 HST ⊢;have HMM:=Lib.hid hmm;have g1:c.size + 1 <= 9223372036854775807:=by omega
    have g2:c.size <= 9223372036854775806:=by omega
    have g3:c.size + 1 + (Q3l y).size <= 9223372036854775807:=by omega
    have HX:=Lib.hid hx;clear hy hcc hmm his hsz hsz2 hx;go_wp2_with fail;refine (Z3s _ y HMM.out.1 HMM.out.2).mono ?_;rintro e w2 ⟨rfl,hx2⟩;have HX2:=Lib.hid (HX.out.trans hx2);clear hx2;go_wp2;go_roundw
    case rel=>exact ⟨k + 1,by omega,by go_num,by rw [HST.out],HX2.out⟩
    case measure=>simp [intOf]; omega
  . have HE:Hid (l.take k = l):=Lib.hid (List.take_of_length_le (by omega))
    have HX:=Lib.hid hx;obtain ⟨c,hcc⟩:∃ c,lnS s (l.take k) = c:=⟨_,rfl⟩;have HCC:=Lib.hid hcc;rw [hcc] at hsz2 ⊢;have g2:c.size <= 9223372036854775806:=by omega
    clear hcc hsz hsz2 hx;go_wp2;go_ret;exact ⟨by rw [<- HCC.out,HE.out]; rfl,HX.out⟩
end Go.Proofs
namespace Go.Proofs
open Go.RowKit Go.Tw Go.Flow
def X9p (t:Tree) (k:Nat):ByteArray:=X1p ((t.basics.map Q8w).take k) emp
theorem Y6o {t:Tree} {k:Nat} (hk:k < t.basics.length):X9p t (k + 1) = X9p t k ++ lineS Q5n (bName t.basics k) [Q1b t.basics k]:=by
 have hk2:k < (t.basics.map Q8w).length:=by rw [List.length_map]; exact hk
 have e:lineS Q5n (bName t.basics k) [Q1b t.basics k] = (t.basics.map Q8w)[k]:=by
  rw [List.getElem_map];unfold bName Q1b Q8w;rw [getD_at hk]
 have hj:∀ (l:List ByteArray),dat (X1p l emp) = (l.map dat).flatten:=by
  intro l;cases l with
  | nil=>rfl
  | cons x r =>
    show Lib.join ((x :: r).map dat) [] = _;rw [List.map_cons,Lib.join_cons];unfold Lib.joinTail;simp;rfl
 apply Q8p
 rw [e,Q7n];unfold X9p;rw [hj,hj,List.take_succ_eq_append_getElem hk2,List.map_append,List.flatten_append];simp
theorem X7h {t:Tree} (hv:Valid t) (k:Nat):(X9p t k).size <= 65536 + 5000000 * 4096:=by
 have hs:=hv.size;unfold Tree.size at hs;refine Q9l (by rw [List.length_take,List.length_map]; omega) (fun x hx=>?_) (by decide)
 obtain ⟨b,hb,rfl⟩:=List.mem_map.1 (List.mem_of_mem_take hx);obtain ⟨k,hk,rfl⟩:=List.getElem_of_mem hb;have h:=hv.basic hk;unfold bName Q1b at h;rw [getD_at hk] at h;exact Q8a (by simp) (by decide) h.2.2 fun x hx=>by rw [List.mem_singleton] at hx; subst hx; exact ⟨h.1,h.2.1⟩
theorem Z6w (a:ByteArray) (l:List UInt8) (nm:ByteArray) (h:dat a ++ [32] = l):(⟨l.toArray⟩:ByteArray) ++ nm = a ++ spS ++ nm:=by
 apply Q8p
 rw [Q7n,Q7n,Q7n,<- h];rfl
theorem X2q (w:World) (a nm:ByteArray) (l:List UInt8) (v:Value) (xs:List Int) (h:dat a ++ [32] = l) (ha:a.size <= 20) (hn:nm.size <= 900) (hv:Q0e w v xs) (hl:xs.length <= 1000) (hm:∀ x ∈ xs,0 <= x /\ x < 100) :
    Calls Tryz.prog 85 #[.string (⟨l.toArray⟩ ++ nm),v] w fun e w'=>e = .returned (.string (lineS a nm xs)) /\ Ext w w':=by
 rw [Z6w a l nm h,Z3z];exact Y9w w _ v xs hv hl hm (by rw [ByteArray.size_append,ByteArray.size_append]; have:spS.size = 1:=rfl; omega)
theorem X8m (w:World) (v:Value) (t:Tree) (he:t.err = 0) (ht:IsTree w v t) :
    Calls Tryz.prog 27 #[v] w fun e w'=>e = .returned (.string (Q7m t)) /\ Ext w w':=by
 obtain ⟨i0,hi,hz0,hz1,hz2⟩:=info_parts Tryz.info3;have HPS:Hid (Q7m t = Q4p t (Q3d t (X9p t t.basics.length) t.causes.length) t.gates.length):=Lib.hid (by
  unfold Q7m X9p X5x;rw [if_pos he,List.take_of_length_le (by simp)])
 have hv:=Valid.of he;have HV:=Lib.hid hv;have hs12:=hv.size;unfold Tree.size at hs12;have hg32:=hv.ng';clear hv he;obtain ⟨a,b,c,rfl,h3⟩:=ht;obtain ⟨A,capa,rfl,hl1,hcap1,_⟩:=h3.basics.opened;obtain ⟨B,capb,rfl,hl2,hcap2,_⟩:=h3.causes.opened;obtain ⟨G,capg,rfl,hl3,hcap3,_⟩:=h3.gates.opened;have HT0:=Lib.hid h3;clear h3;go_enter Tryz.func27,Tryz.ntmps27;go_wp2_with fail;change Code.wp _ _ _ _ (w.alloc (.cells #[.slice A t.basics.length capa,.slice B t.causes.length capb,.slice G t.gates.length capg] 26));obtain ⟨W,hWW,k0,HXW,eW⟩:=Q3a w 26 #[.slice A t.basics.length capa,.slice B t.causes.length capb,.slice G t.gates.length capg];rw [hWW];clear hWW;have HT:=Lib.hid (HT0.out.ext HXW.out);have K0:=Lib.hid k0;clear k0;obtain ⟨g,hg⟩:∃ g,w.heap.size = g:=⟨_,rfl⟩;rw [hg] at K0 ⊢;clear hg;go_wp2
 go_loopw [3,4] (fun o i wr=>∃ (k:Nat),k <= t.basics.length /\ i = .int .i64 k /\ o = .string (X9p t k) /\ Ext W wr) (fun _ i _=>t.basics.length - (intOf i).toNat)
 case atStart=>exact ⟨0,Nat.zero_le _,rfl,rfl,Ext.refl _⟩
 case round =>
  obtain ⟨k,hk,rfl,rfl,hbel⟩:=hrel;have HB:=Lib.hid hbel;have HK:=Lib.hid (K0.out.ext hbel);have c0:=HK.out.cell 0;simp only [Go.Tw.gA,Go.Tw.gB,Go.Tw.gC] at c0
  by_cases hlt:k < t.basics.length
  . obtain ⟨_,_,he0,_,_,hcc⟩:=HT.out.basics.opened
    cases he0;obtain ⟨b1,off,rfl,hb1,e0,e1,_⟩:=hcc k hlt;replace e0:=hbel.cell e0;replace e1:=hbel.cell e1;have hcp:=HV.out.basic hlt;have hls:(lineS Q5n (bName t.basics k) [Q1b t.basics k]).size <= 5000000:=Q8a (by simp) (by decide) hcp.2.2 fun x hx=>by rw [List.mem_singleton] at hx; subst hx; exact ⟨hcp.1,hcp.2.1⟩
    have hcs:=X7h HV.out k;have hnn:(bName t.basics k).size <= 24:=by
     have h:=(HV.out.event k (by unfold Tree.size; omega))
     unfold Tree.Q1f at h;rw [Q1h] at h;have h2:=X4r (h (Q3f (t.nameAt k)) (by simp))
     unfold Tree.nameAt at h2;rw [if_pos hlt] at h2;exact h2
    have HSTEP:=Lib.hid (Y6o hlt);obtain ⟨acc,hacc⟩:∃ x,X9p t k = x:=⟨_,rfl⟩;obtain ⟨nm,hnm⟩:∃ x,bName t.basics k = x:=⟨_,rfl⟩;obtain ⟨ch,hch⟩:∃ x,Q1b t.basics k = x:=⟨_,rfl⟩;rw [hnm] at e0;rw [hch] at e1;rw [hnm,hch] at hls HSTEP;rw [hnm,hch] at hcp;rw [hnm] at hnn;rw [hacc] at hcs HSTEP ⊢;have HCP:=Lib.hid hcp;have hkI:(k:Int) < t.basics.length:=by omega
    have hdr:=(Ext.refl wr).drew;obtain ⟨ls,hlsx⟩:∃ x,lineS Q5n nm [ch] = x:=⟨_,rfl⟩;rw [hlsx] at hls HSTEP;have HLN:Hid (∀ (w':World) (u:Value),Q0e w' u [ch] -> Calls Tryz.prog 85 #[.string (⟨#[98,97,115,105,99,32]⟩ ++ nm),u] w' fun e w''=>e = .returned (.string ls) /\ Ext w' w''):=by
     refine Lib.hid fun w' u h=>?_;rw [<- hlsx];exact X2q w' Q5n nm [98,97,115,105,99,32] u _ rfl (by decide) (by omega) h (by simp) (fun x hx=>by
      rw [List.mem_singleton] at hx; subst hx; exact ⟨HCP.out.1,HCP.out.2.1⟩
    )
    have g1:nm.size <= 9223372036854775801:=by omega
    have g3:6 + nm.size <= 9223372036854775807:=by omega
    have g2:acc.size + ls.size <= 9223372036854775807:=by omega
    have E0:=Lib.hid e0;have E1:=Lib.hid e1
    skip
    clear hbel hcc hnm hch hacc hcp hlsx hls hcs e0 e1;go_wp2;clear c0;refine Flow.Q2p [.p,.p,.w,.p,.p,.p,.w,.p,.p,.w,.p,.p,.p,.w,.w,.w,.p,.p] [0,1,2,3,4,5,6,7,8,9,10,11,12,13,14,15,16,17] [[],[],[1],[],[2,3],[4],[5],[6],[],[8],[],[9,10],[11],[12],[13],[7,14],[0,15],[0,1,2,3,4,5,6,7,8,9,10,11,12,13,14,15,16]]
     [.c 0 (.string acc),.c 1 (.pointer (some ⟨g,0,none⟩)),.c 2 (.slice (some ⟨b1,off,none⟩) t.basics.length capa),.c 3 (.int .i64 k),.c 4 (.pointer (some ⟨b1,off + k * 2,none⟩)),.c 5 (.pointer (some ⟨b1,off + k * 2,none⟩)),.c 6 (.string nm),.c 7 (.string (⟨#[98,97,115,105,99,32]⟩ ++ nm)),.c 8 (.pointer (some ⟨g,0,none⟩)),.c 9 (.slice (some ⟨b1,off,none⟩) t.basics.length capa),.c 10 (.int .i64 k),.c 11 (.pointer (some ⟨b1,off + k * 2,none⟩)),.c 12 (.pointer (some ⟨b1,off + k * 2 + 1,none⟩)),.c 13 (.int .i64 ch),⟨fun v wz=>Q0e wz (v 14) [ch],fun _ _ _ hx h=>h.ext hx⟩,.c 15 (.string ls),.c 16 (.string (acc ++ ls)),.c 17 (.string (acc ++ ls))]
     (by kernel_rfl) rfl (by kernel_rfl) ⟨?g0,?g1,?g2,?g3,?g4,?g5,?g6,?g7,?g8,?g9,?g10,?g11,?g12,?g13,?g14,?g15,?g16,?g17,trivial⟩ ?post
    case g0 | g1 | g3 | g8 | g10=>
     intro v w1 hx;intro bb hbb;subst hbb;refine ⟨_,fun w=>?_,rfl⟩;go_simp
    case g2 | g9=>
     intro v w1 hx;(repeat intro (zq:v _ = _));intro bb hbb;subst hbb;have n0:w1.cell? ⟨g,0,none⟩ = some (.slice (some ⟨b1,off,none⟩) t.basics.length capa):=(HK.out.ext (hdr.trans hx)).cell 0;intro K hK;go_simp;exact hK _ _ (Ext.refl _) rfl
    case g4 | g5 | g7 | g11 | g12 | g16=>
     intro v w1 hx;(repeat intro (zq:v _ = _));intro bb hbb;subst hbb;refine ⟨_,fun w=>?_,rfl⟩;go_simp
    case g6=>
     intro v w1 hx;(repeat intro (zq:v _ = _));intro bb hbb;subst hbb;have n0:=(hdr.trans hx).cell E0.out;intro K hK;go_simp;exact hK _ _ (Ext.refl _) rfl
    case g13=>
     intro v w1 hx;(repeat intro (zq:v _ = _));intro bb hbb;subst hbb;have n0:=(hdr.trans hx).cell E1.out;intro K hK;go_simp;exact hK _ _ (Ext.refl _) rfl
    case g14=>
     intro v w1 hx;(repeat intro (zq:v _ = _));intro bb hbb;subst hbb;intro K hK;go_simp;exact hK _ _ (Ext.box _ _) (Q3h (l:=[ch]) (by simp))
    case g15=>
     intro v w1 hx (q7:v 7 = _) (q14:Q0e w1 (v 14) [ch]);intro bb hbb;subst hbb;intro K hK;go_simp;refine Q0d (HLN.out w1 _ q14) ?_;rintro e w2 ⟨rfl,hx2⟩;exact ⟨_,rfl,hK _ _ hx2 rfl⟩
    case g17=>
     intro v w1 hx (q0:v 0 = _) (q1:v 1 = _) (q2:v 2 = _) (q3:v 3 = _) (q4:v 4 = _) (q5:v 5 = _) (q6:v 6 = _) (q7:v 7 = _) (q8:v 8 = _) (q9:v 9 = _) (q10:v 10 = _) (q11:v 11 = _) (q12:v 12 = _) (q13:v 13 = _) _ (q15:v 15 = _) (q16:v 16 = _);intro bb hbb;subst hbb;refine ⟨_,fun w=>?_,rfl⟩;go_simp
    case post =>
     intro v w1 hx;(iterate 14 intro (zq:v _ = _));intro (q14:Q0e w1 (v 14) [ch]);(iterate 3 intro (zq:v _ = _));simp only [Flow.All,Flow.acts,Act.put];go_simp;have HX9:=Lib.hid (HB.out.trans (hdr.trans hx));clear hx hdr q14;(repeat clear zq);go_wp2;go_roundw
     case rel=>exact ⟨k + 1,by omega,by go_num,by rw [HSTEP.out],HX9.out⟩
     case measure=>simp [intOf]; omega
  . have e:k = t.basics.length:=by omega
    subst e;have HXP:=Lib.hid hbel;obtain ⟨pb,hpb⟩:∃ x,X9p t t.basics.length = x:=⟨_,rfl⟩;have hps:=X7h HV.out t.basics.length;rw [hpb] at HPS hps ⊢;clear hbel hpb HB;go_wp2;clear HK c0
    go_loopw [3,5] (fun o i wr=>∃ (k:Nat),k <= t.causes.length /\ i = .int .i64 k /\ o = .string (Q3d t pb k) /\ Ext W wr) (fun _ i _=>t.causes.length - (intOf i).toNat)
    case atStart=>exact ⟨0,Nat.zero_le _,rfl,rfl,HXP.out⟩
    case round =>
     obtain ⟨k,hk,rfl,rfl,hbel⟩:=hrel;have HB:=Lib.hid hbel;have HK:=Lib.hid (K0.out.ext hbel);have c1:=HK.out.cell 1;simp only [Go.Tw.gA,Go.Tw.gB,Go.Tw.gC] at c1
     by_cases hlt:k < t.causes.length
     . obtain ⟨_,_,he0,_,_,hcc⟩:=HT.out.causes.opened
       cases he0;obtain ⟨b1,off,mv,rfl,hb1,e0,e1,e2,hM,hsh⟩:=hcc k hlt;replace e0:=hbel.cell e0;replace e1:=hbel.cell e1;replace e2:=hbel.cell e2;have hcp:=HV.out.cause hlt;have hls:=X2s HV.out hlt;have hcs:=Q5o HV.out pb k hk;have hnn:=hcp.2.2.2.2;have HSTEP:Hid (Q3d t pb (k + 1) = Q3d t pb k ++ lineS Q6h (cName t.causes k) (Q1k t.causes k :: Q0f t.causes k)):=Lib.hid rfl;obtain ⟨acc,hacc⟩:∃ x,Q3d t pb k = x:=⟨_,rfl⟩;obtain ⟨nm,hnm⟩:∃ x,cName t.causes k = x:=⟨_,rfl⟩;obtain ⟨ch,hch⟩:∃ x,Q1k t.causes k = x:=⟨_,rfl⟩;obtain ⟨ml,hml⟩:∃ x,Q0f t.causes k = x:=⟨_,rfl⟩;obtain ⟨A3,cap3,rfl,_,_,hmc⟩:=hM.opened;obtain ⟨b3,off3,rfl,_⟩:=hmc 0 (List.length_pos_iff.2 hcp.2.1);clear hmc;rw [hml] at e2 hM;rw [hnm] at e0;rw [hch] at e1;rw [hnm,hch,hml] at hcp hls HSTEP
       skip
       rw [hnm] at hnn;rw [hacc] at hcs HSTEP ⊢;have HCP:=Lib.hid hcp;have hkI:(k:Int) < t.causes.length:=by omega
       have hdr:=(Ext.refl wr).drew;have HM:=Lib.hid (hM.ext hbel);have hml12:=hcp.2.2.1;obtain ⟨ls,hlsx⟩:∃ x,lineS Q6h nm (ch :: ml) = x:=⟨_,rfl⟩;rw [hlsx] at hls HSTEP;have HLN:Hid (∀ (w':World) (u:Value),Q0e w' u (ch :: ml) -> Calls Tryz.prog 85 #[.string (⟨#[99,97,117,115,101,32]⟩ ++ nm),u] w' fun e w''=>e = .returned (.string ls) /\ Ext w' w''):=by
        refine Lib.hid fun w' u h=>?_;rw [<- hlsx];exact X2q w' Q6h nm [99,97,117,115,101,32] u _ rfl (by decide) (by omega) h (by rw [List.length_cons]; omega) (fun x hx=>by
         rcases List.mem_cons.1 hx with rfl | hx
         . exact HCP.out.1
         . exact HCP.out.2.2.2.1 x hx)
       have g1:nm.size <= 9223372036854775801:=by omega
       have g3:6 + nm.size <= 9223372036854775807:=by omega
       have g2:acc.size + ls.size <= 9223372036854775807:=by omega
       have E0:=Lib.hid e0;have E1:=Lib.hid e1;have E2:=Lib.hid e2;clear hbel hcc hnm hch hacc hcp hlsx hls hcs e0 e1 e2 hM hml hsh;go_wp2;clear c1;refine Flow.Q2p [.p,.p,.w,.p,.p,.p,.w,.p,.p,.w,.p,.p,.p,.w,.w,.p,.w,.p,.p,.p,.w,.w,.w,.p,.p] [0,1,2,3,4,5,6,7,8,9,10,11,12,13,14,15,16,17,18,19,20,21,22,23,24] [[],[],[1],[],[2,3],[4],[5],[6],[],[8],[],[9,10],[11],[12],[13],[],[15],[],[16,17],[18],[19],[14,20],[7,21],[0,22],[0,1,2,3,4,5,6,7,8,9,10,11,12,13,14,15,16,17,18,19,20,21,22,23]]
        [.c 0 (.string acc),.c 1 (.pointer (some ⟨g,1,none⟩)),.c 2 (.slice (some ⟨b1,off,none⟩) t.causes.length capb),.c 3 (.int .i64 k),.c 4 (.pointer (some ⟨b1,off + k * 3,none⟩)),.c 5 (.pointer (some ⟨b1,off + k * 3,none⟩)),.c 6 (.string nm),.c 7 (.string (⟨#[99,97,117,115,101,32]⟩ ++ nm)),.c 8 (.pointer (some ⟨g,1,none⟩)),.c 9 (.slice (some ⟨b1,off,none⟩) t.causes.length capb),.c 10 (.int .i64 k),.c 11 (.pointer (some ⟨b1,off + k * 3,none⟩)),.c 12 (.pointer (some ⟨b1,off + k * 3 + 1,none⟩)),.c 13 (.int .i64 ch),⟨fun v wz=>X6n wz (v 14) ch,fun _ _ _ hx h=>h.ext hx⟩,.c 15 (.pointer (some ⟨g,1,none⟩)),.c 16 (.slice (some ⟨b1,off,none⟩) t.causes.length capb),.c 17 (.int .i64 k),.c 18 (.pointer (some ⟨b1,off + k * 3,none⟩)),.c 19 (.pointer (some ⟨b1,off + k * 3 + 2,none⟩)),.c 20 (.slice (some ⟨b3,off3,none⟩) ml.length cap3),⟨fun v wz=>Q0e wz (v 21) (ch :: ml),fun _ _ _ hx h=>h.ext hx⟩,.c 22 (.string ls),.c 23 (.string (acc ++ ls)),.c 24 (.string (acc ++ ls))]
        (by kernel_rfl) rfl (by kernel_rfl) ⟨?g0,?g1,?g2,?g3,?g4,?g5,?g6,?g7,?g8,?g9,?g10,?g11,?g12,?g13,?g14,?g15,?g16,?g17,?g18,?g19,?g20,?g21,?g22,?g23,?g24,trivial⟩ ?post
       case g0 | g1 | g3 | g8 | g10 | g15 | g17=>
        intro v w1 hx;intro bb hbb;subst hbb;refine ⟨_,fun w=>?_,rfl⟩;go_simp
       case g2 | g9 | g16=>
        intro v w1 hx;(repeat intro (zq:v _ = _));intro bb hbb;subst hbb;have n0:w1.cell? ⟨g,1,none⟩ = some (.slice (some ⟨b1,off,none⟩) t.causes.length capb):=(HK.out.ext (hdr.trans hx)).cell 1;intro K hK;go_simp;exact hK _ _ (Ext.refl _) rfl
       case g4 | g5 | g7 | g11 | g12 | g18 | g19 | g23=>
        intro v w1 hx;(repeat intro (zq:v _ = _));intro bb hbb;subst hbb;refine ⟨_,fun w=>?_,rfl⟩;go_simp
       case g6=>
        intro v w1 hx;(repeat intro (zq:v _ = _));intro bb hbb;subst hbb;have n0:=(hdr.trans hx).cell E0.out;intro K hK;go_simp;exact hK _ _ (Ext.refl _) rfl
       case g13=>
        intro v w1 hx;(repeat intro (zq:v _ = _));intro bb hbb;subst hbb;have n0:=(hdr.trans hx).cell E1.out;intro K hK;go_simp;exact hK _ _ (Ext.refl _) rfl
       case g14=>
        intro v w1 hx;(repeat intro (zq:v _ = _));intro bb hbb;subst hbb;intro K hK;go_simp;exact hK _ _ (Ext.box _ _) (X6n.new _ _ _)
       case g20=>
        intro v w1 hx;(repeat intro (zq:v _ = _));intro bb hbb;subst hbb;have n0:=(hdr.trans hx).cell E2.out;intro K hK;go_simp;exact hK _ _ (Ext.refl _) rfl
       case g21=>
        intro v w1 hx (q14:X6n w1 (v 14) ch) (q20:v 20 = _);intro bb hbb;intro K hK;obtain ⟨g5,e5,c5⟩:=q14;have o1:bb.eval (.tmp 52) = .slice (some ⟨g5,0,none⟩) 1 1:=by rw [hbb]; dsimp only; (try simp (discharger:=decide) only [eval_put_ne]); rw [Q0a (by simp only [size_put]; exact (by decide:52 < 94))]; exact e5
        have o2:bb.eval (.tmp 58) = .slice (some ⟨b3,off3,none⟩) ml.length cap3:=by rw [hbb]; dsimp only; (try simp (discharger:=decide) only [eval_put_ne]); rw [Q0a (by simp only [size_put]; exact (by decide:58 < 94))]; exact q20
        obtain ⟨A9,cap9,he9,_,_,hc9⟩:=(HM.out.ext (hdr.trans hx)).opened;cases he9;refine Q3y (.tmp 52) (.tmp 58) 40 rfl 3 i0 (.int .i64 0) 8 Tryz.underlying40 hi hz0 hz1 hz2 rfl o1 [.int .i64 ch] rfl ?_ o2 (ml.map (Value.int .i64)) (by simp) ?_ (by have:=List.length_pos_iff.2 HCP.out.2.1; omega) (by unfold maxLen; omega) (by omega) (fun v' w' ho hg=>?_)
        . intro j u hj
          cases j with
          | zero=>injection hj with hj; subst hj; rw [addr_add]; exact c5
          | succ j=>cases hj
        . intro j u hj
          rw [List.getElem?_map] at hj;obtain ⟨y,hy,rfl⟩:=Option.map_eq_some_iff.1 hj;obtain ⟨hjl,rfl⟩:=List.getElem?_eq_some_iff.1 hy;obtain ⟨b',off',hee,hcell⟩:=hc9 j hjl;cases hee;rw [addr_add,hcell,Q6t hjl]
        . have hoo:Q0s w' w1.heap.size 3 (.int .i64) v' (ch :: ml):=by unfold Q0s; rw [List.length_cons,Nat.add_comm]; exact ho
          exact hK _ _ (Q7l hg) (hoo.ints (by rw [List.length_cons]; omega))
       case g22=>
        intro v w1 hx (q7:v 7 = _) (q21:Q0e w1 (v 21) (ch :: ml));intro bb hbb;subst hbb;intro K hK;go_simp;refine Q0d (HLN.out w1 _ q21) ?_;rintro e w2 ⟨rfl,hx2⟩;exact ⟨_,rfl,hK _ _ hx2 rfl⟩
       case g24=>
        intro v w1 hx (q0:v 0 = _) (q1:v 1 = _) (q2:v 2 = _) (q3:v 3 = _) (q4:v 4 = _) (q5:v 5 = _) (q6:v 6 = _) (q7:v 7 = _) (q8:v 8 = _) (q9:v 9 = _) (q10:v 10 = _) (q11:v 11 = _) (q12:v 12 = _) (q13:v 13 = _) _ (q15:v 15 = _) (q16:v 16 = _) (q17:v 17 = _) (q18:v 18 = _) (q19:v 19 = _) (q20:v 20 = _) _ (q22:v 22 = _) (q23:v 23 = _);intro bb hbb;subst hbb;refine ⟨_,fun w=>?_,rfl⟩;go_simp
       case post =>
        intro v w1 hx;(iterate 14 intro (zq:v _ = _));intro (q14:X6n w1 (v 14) ch);(iterate 6 intro (zq:v _ = _));intro (q21:Q0e w1 (v 21) (ch :: ml));(iterate 3 intro (zq:v _ = _));simp only [Flow.All,Flow.acts,Act.put];go_simp;have HX9:=Lib.hid (HB.out.trans (hdr.trans hx));clear hx hdr q14 q21;(repeat clear zq);go_wp2;go_roundw
        case rel=>exact ⟨k + 1,by omega,by go_num,by rw [HSTEP.out],HX9.out⟩
        case measure=>simp [intOf]; omega
     . have e:k = t.causes.length:=by omega
       subst e;have HXP:=Lib.hid hbel;obtain ⟨pc,hpc⟩:∃ x,Q3d t pb t.causes.length = x:=⟨_,rfl⟩;have hps2:=Q5o HV.out pb t.causes.length (Nat.le_refl _);rw [hpc] at HPS hps2 ⊢;clear hbel hpc HB;go_wp2;clear HK c1
       go_loopw [3,6] (fun o i wr=>∃ (k:Nat),k <= t.gates.length /\ i = .int .i64 k /\ o = .string (Q4p t pc k) /\ Ext W wr) (fun _ i _=>t.gates.length - (intOf i).toNat)
       case atStart=>exact ⟨0,Nat.zero_le _,rfl,rfl,HXP.out⟩
       case round =>
        obtain ⟨k,hk,rfl,rfl,hbel⟩:=hrel;have HB:=Lib.hid hbel;have HK:=Lib.hid (K0.out.ext hbel);have c2:=HK.out.cell 2;simp only [Go.Tw.gA,Go.Tw.gB,Go.Tw.gC] at c2
        by_cases hlt:k < t.gates.length
        . obtain ⟨_,_,he0,_,_,hcc⟩:=HT.out.gates.opened
          cases he0;obtain ⟨b1,off,mv,rfl,hb1,e0,e1,e2,hM,hsh⟩:=hcc k hlt;replace e0:=hbel.cell e0;replace e1:=hbel.cell e1;replace e2:=hbel.cell e2;have hcp:=HV.out.Z3q hlt;have hls:=X2c HV.out hlt;have hcs:=Q9k HV.out pc k hk;have hnn:=hcp.2.2.2.2;have HSTEP:Hid (Q4p t pc (k + 1) = Q4p t pc k ++ lineS X0w (Q2f t.gates k) (Q3e t.gates k :: Q0m t.gates k)):=Lib.hid rfl;obtain ⟨acc,hacc⟩:∃ x,Q4p t pc k = x:=⟨_,rfl⟩;obtain ⟨nm,hnm⟩:∃ x,Q2f t.gates k = x:=⟨_,rfl⟩;obtain ⟨ch,hch⟩:∃ x,Q3e t.gates k = x:=⟨_,rfl⟩;obtain ⟨ml,hml⟩:∃ x,Q0m t.gates k = x:=⟨_,rfl⟩;obtain ⟨A3,cap3,rfl,_,_,hmc⟩:=hM.opened;obtain ⟨b3,off3,rfl,_⟩:=hmc 0 (List.length_pos_iff.2 hcp.2.1);clear hmc;rw [hml] at e2 hM;rw [hnm] at e0;rw [hch] at e1;rw [hnm,hch,hml] at hcp hls HSTEP
          skip
          rw [hnm] at hnn;rw [hacc] at hcs HSTEP ⊢;have HCP:=Lib.hid hcp;have hkI:(k:Int) < t.gates.length:=by omega
          have hdr:=(Ext.refl wr).drew;have HM:=Lib.hid (hM.ext hbel);have hml12:=hcp.2.2.1;obtain ⟨ls,hlsx⟩:∃ x,lineS X0w nm (ch :: ml) = x:=⟨_,rfl⟩;rw [hlsx] at hls HSTEP;have HLN:Hid (∀ (w':World) (u:Value),Q0e w' u (ch :: ml) -> Calls Tryz.prog 85 #[.string (⟨#[103,97,116,101,32]⟩ ++ nm),u] w' fun e w''=>e = .returned (.string ls) /\ Ext w' w''):=by
           refine Lib.hid fun w' u h=>?_;rw [<- hlsx];exact X2q w' X0w nm [103,97,116,101,32] u _ rfl (by decide) (by omega) h (by rw [List.length_cons]; omega) (fun x hx=>by
            rcases List.mem_cons.1 hx with rfl | hx
            . exact HCP.out.1
            . exact HCP.out.2.2.2.1 x hx)
          have g1:nm.size <= 9223372036854775802:=by omega
          have g3:5 + nm.size <= 9223372036854775807:=by omega
          have g2:acc.size + ls.size <= 9223372036854775807:=by omega
          have E0:=Lib.hid e0;have E1:=Lib.hid e1;have E2:=Lib.hid e2;clear hbel hcc hnm hch hacc hcp hlsx hls hcs e0 e1 e2 hM hml hsh;go_wp2;clear c2;refine Flow.Q2p [.p,.p,.w,.p,.p,.p,.w,.p,.p,.w,.p,.p,.p,.w,.w,.p,.w,.p,.p,.p,.w,.w,.w,.p,.p] [0,1,2,3,4,5,6,7,8,9,10,11,12,13,14,15,16,17,18,19,20,21,22,23,24] [[],[],[1],[],[2,3],[4],[5],[6],[],[8],[],[9,10],[11],[12],[13],[],[15],[],[16,17],[18],[19],[14,20],[7,21],[0,22],[0,1,2,3,4,5,6,7,8,9,10,11,12,13,14,15,16,17,18,19,20,21,22,23]]
           [.c 0 (.string acc),.c 1 (.pointer (some ⟨g,2,none⟩)),.c 2 (.slice (some ⟨b1,off,none⟩) t.gates.length capg),.c 3 (.int .i64 k),.c 4 (.pointer (some ⟨b1,off + k * 3,none⟩)),.c 5 (.pointer (some ⟨b1,off + k * 3,none⟩)),.c 6 (.string nm),.c 7 (.string (⟨#[103,97,116,101,32]⟩ ++ nm)),.c 8 (.pointer (some ⟨g,2,none⟩)),.c 9 (.slice (some ⟨b1,off,none⟩) t.gates.length capg),.c 10 (.int .i64 k),.c 11 (.pointer (some ⟨b1,off + k * 3,none⟩)),.c 12 (.pointer (some ⟨b1,off + k * 3 + 1,none⟩)),.c 13 (.int .i64 ch),⟨fun v wz=>X6n wz (v 14) ch,fun _ _ _ hx h=>h.ext hx⟩,.c 15 (.pointer (some ⟨g,2,none⟩)),.c 16 (.slice (some ⟨b1,off,none⟩) t.gates.length capg),.c 17 (.int .i64 k),.c 18 (.pointer (some ⟨b1,off + k * 3,none⟩)),.c 19 (.pointer (some ⟨b1,off + k * 3 + 2,none⟩)),.c 20 (.slice (some ⟨b3,off3,none⟩) ml.length cap3),⟨fun v wz=>Q0e wz (v 21) (ch :: ml),fun _ _ _ hx h=>h.ext hx⟩,.c 22 (.string ls),.c 23 (.string (acc ++ ls)),.c 24 (.string (acc ++ ls))]
           (by kernel_rfl) rfl (by kernel_rfl) ⟨?g0,?g1,?g2,?g3,?g4,?g5,?g6,?g7,?g8,?g9,?g10,?g11,?g12,?g13,?g14,?g15,?g16,?g17,?g18,?g19,?g20,?g21,?g22,?g23,?g24,trivial⟩ ?post
          case g0 | g1 | g3 | g8 | g10 | g15 | g17=>
           intro v w1 hx;intro bb hbb;subst hbb;refine ⟨_,fun w=>?_,rfl⟩;go_simp
          case g2 | g9 | g16=>
           intro v w1 hx;(repeat intro (zq:v _ = _));intro bb hbb;subst hbb;have n0:w1.cell? ⟨g,2,none⟩ = some (.slice (some ⟨b1,off,none⟩) t.gates.length capg):=(HK.out.ext (hdr.trans hx)).cell 2;intro K hK;go_simp;exact hK _ _ (Ext.refl _) rfl
          case g4 | g5 | g7 | g11 | g12 | g18 | g19 | g23=>
           intro v w1 hx;(repeat intro (zq:v _ = _));intro bb hbb;subst hbb;refine ⟨_,fun w=>?_,rfl⟩;go_simp
          case g6=>
           intro v w1 hx;(repeat intro (zq:v _ = _));intro bb hbb;subst hbb;have n0:=(hdr.trans hx).cell E0.out;intro K hK;go_simp;exact hK _ _ (Ext.refl _) rfl
          case g13=>
           intro v w1 hx;(repeat intro (zq:v _ = _));intro bb hbb;subst hbb;have n0:=(hdr.trans hx).cell E1.out;intro K hK;go_simp;exact hK _ _ (Ext.refl _) rfl
          case g14=>
           intro v w1 hx;(repeat intro (zq:v _ = _));intro bb hbb;subst hbb;intro K hK;go_simp;exact hK _ _ (Ext.box _ _) (X6n.new _ _ _)
          case g20=>
           intro v w1 hx;(repeat intro (zq:v _ = _));intro bb hbb;subst hbb;have n0:=(hdr.trans hx).cell E2.out;intro K hK;go_simp;exact hK _ _ (Ext.refl _) rfl
          case g21=>
           intro v w1 hx (q14:X6n w1 (v 14) ch) (q20:v 20 = _);intro bb hbb;intro K hK;obtain ⟨g5,e5,c5⟩:=q14;have o1:bb.eval (.tmp 83) = .slice (some ⟨g5,0,none⟩) 1 1:=by rw [hbb]; dsimp only; (try simp (discharger:=decide) only [eval_put_ne]); rw [Q0a (by simp only [size_put]; exact (by decide:83 < 94))]; exact e5
           have o2:bb.eval (.tmp 89) = .slice (some ⟨b3,off3,none⟩) ml.length cap3:=by rw [hbb]; dsimp only; (try simp (discharger:=decide) only [eval_put_ne]); rw [Q0a (by simp only [size_put]; exact (by decide:89 < 94))]; exact q20
           obtain ⟨A9,cap9,he9,_,_,hc9⟩:=(HM.out.ext (hdr.trans hx)).opened;cases he9;refine Q3y (.tmp 83) (.tmp 89) 40 rfl 3 i0 (.int .i64 0) 8 Tryz.underlying40 hi hz0 hz1 hz2 rfl o1 [.int .i64 ch] rfl ?_ o2 (ml.map (Value.int .i64)) (by simp) ?_ (by have:=List.length_pos_iff.2 HCP.out.2.1; omega) (by unfold maxLen; omega) (by omega) (fun v' w' ho hg=>?_)
           . intro j u hj
             cases j with
             | zero=>injection hj with hj; subst hj; rw [addr_add]; exact c5
             | succ j=>cases hj
           . intro j u hj
             rw [List.getElem?_map] at hj;obtain ⟨y,hy,rfl⟩:=Option.map_eq_some_iff.1 hj;obtain ⟨hjl,rfl⟩:=List.getElem?_eq_some_iff.1 hy;obtain ⟨b',off',hee,hcell⟩:=hc9 j hjl;cases hee;rw [addr_add,hcell,Q6t hjl]
           . have hoo:Q0s w' w1.heap.size 3 (.int .i64) v' (ch :: ml):=by unfold Q0s; rw [List.length_cons,Nat.add_comm]; exact ho
             exact hK _ _ (Q7l hg) (hoo.ints (by rw [List.length_cons]; omega))
          case g22=>
           intro v w1 hx (q7:v 7 = _) (q21:Q0e w1 (v 21) (ch :: ml));intro bb hbb;subst hbb;intro K hK;go_simp;refine Q0d (HLN.out w1 _ q21) ?_;rintro e w2 ⟨rfl,hx2⟩;exact ⟨_,rfl,hK _ _ hx2 rfl⟩
          case g24=>
           intro v w1 hx (q0:v 0 = _) (q1:v 1 = _) (q2:v 2 = _) (q3:v 3 = _) (q4:v 4 = _) (q5:v 5 = _) (q6:v 6 = _) (q7:v 7 = _) (q8:v 8 = _) (q9:v 9 = _) (q10:v 10 = _) (q11:v 11 = _) (q12:v 12 = _) (q13:v 13 = _) _ (q15:v 15 = _) (q16:v 16 = _) (q17:v 17 = _) (q18:v 18 = _) (q19:v 19 = _) (q20:v 20 = _) _ (q22:v 22 = _) (q23:v 23 = _);intro bb hbb;subst hbb;refine ⟨_,fun w=>?_,rfl⟩;go_simp
          case post =>
           intro v w1 hx;(iterate 14 intro (zq:v _ = _));intro (q14:X6n w1 (v 14) ch);(iterate 6 intro (zq:v _ = _));intro (q21:Q0e w1 (v 21) (ch :: ml));(iterate 3 intro (zq:v _ = _));simp only [Flow.All,Flow.acts,Act.put];go_simp;have HX9:=Lib.hid (HB.out.trans (hdr.trans hx));clear hx hdr q14 q21;(repeat clear zq);go_wp2;go_roundw
           case rel=>exact ⟨k + 1,by omega,by go_num,by rw [HSTEP.out],HX9.out⟩
           case measure=>simp [intOf]; omega
        . have e:k = t.gates.length:=by omega
          subst e;have HXP:=Lib.hid hbel;go_wp2;go_ret;exact ⟨by rw [HPS.out]; rfl,HXW.out.trans HXP.out⟩
end Go.Proofs
