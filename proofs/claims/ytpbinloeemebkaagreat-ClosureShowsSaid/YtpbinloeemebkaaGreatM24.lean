/-
  The maker: fonts.
-/
import Derived.Test.YtpbinloeemebkaaGreatM23
namespace Go.Proofs.YtpbinloeemebkaaGreat
open Go.RowKit
attribute [local irreducible] AT bO AX AO Av Kt bo dU DA cT
variable (s:List Int) (hs:s.length≤1000000)
theorem Bn {a c:Nat×AB} {T:AL}:([a,c]++T).Perm (([a]++(T++[]))++[c]):=by
 rw [List.append_nil]
 exact List.Perm.cons a (List.perm_append_comm (l₁:=[c]))
theorem G2 {A T:AL} {c:Nat×AB}:((A++T)++[c]).Perm ((A++[c])++T):=by
 rw [List.append_assoc,List.append_assoc]
 exact List.Perm.append_left _ List.perm_append_comm
theorem yY:bM Tryz.prog 65 [] (.imm 1 (aS ez)):=by
 refine aT Tryz.func65 rfl Tryz.ntmps65 rfl fun B=>?_
 repeat' (first|refine go ?_|refine HF a1 F8 ?_|refine bI a1 ?_|fail)
 exact HP HA
theorem ud:bM Tryz.prog 67 [] (.imm 1 (jZ eV)):=by
 refine aT Tryz.func67 rfl Tryz.ntmps67 rfl fun B=>?_
 repeat' (first|refine go ?_|refine HF a1 F8 ?_|refine bI a1 ?_|fail)
 exact HP HA
theorem rd (k:Nat) (m:MS):(kG s k m).1.length=k:=by
 exact (bU.runs (fun i (l:List eu)=>l.length=i) k rfl fun i l _ h=>(bU.any _).bnd fun a _=>(bU.any _).bnd fun b _=>bU.ret (by simp [h])) m
theorem wA (k:Nat) (m:MS):(i4 s k m).1.length=k:=by
 exact (bU.runs (fun i (l:List eX)=>l.length=i) k rfl fun i l _ h=>(bU.any _).bnd fun a _=>bU.ret (by simp [h])) m
theorem rI (x k:Nat) (m:MS):(kp s x k m).1.length=k:=by
 exact (bU.runs (fun i (l:List (List eX))=>l.length=i) k rfl fun i l _ h=>(bU.any _).bnd fun a _=>bU.ret (by simp [h])) m
theorem vC (k:Nat) (m:MS):(ix s k m).1.length=k:=by
 exact (bU.runs (fun i (l:List (List fT))=>l.length=i) k rfl fun i l _ h=>(bU.any _).bnd fun a _=>(bU.any _).bnd fun b _=>bU.ret (by simp [h])) m
theorem A8 (k:Nat) (m:MS):(py s k m).1.length=k:=by
 exact (bU.runs (fun i (l:List Int)=>l.length=i) k rfl fun i l _ h=>(bU.any _).bnd fun a _=>bU.ret (by simp [h])) m
theorem tO (R fn k:Nat) (m:MS):(g9 s R fn k m).1.length=k:=by
 exact (bU.runs (fun i (l:List bn)=>l.length=i) k rfl fun i l _ h=>(bU.any _).bnd fun a _=>bU.ret (by simp [h])) m
theorem vm (n:Int) (k:Nat) (m:MS):(gW s n k m).1.length≤k:=by
 exact (bU.runs (fun i (l:List f0)=>l.length≤i) k (Nat.le_refl _) fun i l _ h=>(bU.any _).bnd fun a _=>bU.ite (fun _=>(bU.any _).bnd fun b _=>bU.ret (by simp;omega)) fun _=>bU.ret (by omega)) m
theorem zU (k:Nat) (m:MS):(nz s k m).1.length≤k:=by
 exact (bU.runs (fun i (l:List Int)=>l.length≤i) k (Nat.le_refl _) fun i l _ h=>(bU.any _).bnd fun a _=>bU.ret (by
  split
  ·simp;omega
  ·omega)) m
theorem vw (n k:Nat) (m:MS):(gY s n k m).1.length≤k:=by
 exact (bU.runs (fun i (l:List bV)=>l.length≤i) k (Nat.le_refl _) fun i l _ h=>(bU.any _).bnd fun a _=>(bU.any _).bnd fun b _=>bU.ret (by
  split
  ·simp;omega
  ·omega)) m
abbrev tB (tb:Nat):Nat×AB:=(tb,.box [aH 0,bP,bP,bP,bP,bP,bP,bP,bP] 31)
include hs
set_option maxHeartbeats 32000000 in
theorem B7:bM Tryz.prog 44 [.imm 1 (aS s)] (cx (rD s)):=by
 refine aT Tryz.func44 rfl Tryz.ntmps44 rfl fun B=>?_
 repeat' (first|refine go ?_|refine HF a1 F8 ?_|refine rF (d:=22) fun _=>?_|refine bl a1 fun _=>?_|refine bI a1 ?_|fail)
 rename_i tb b
 refine aV (aJ (L':=[dS b s ⟨aH 0,bP,bP,bP,bP,bP,bP,bP,bP⟩ ⟨0,0⟩,tB tb]) (Ho _)) ?_
 refine aV (bE 0 (cs':=FY s ⟨aH 0,.vec none 9 [],.vec none 2 [],bP,.vec none 2 [],.vec none 4 [],.vec none 1 [],.vec none 1 [],.vec none 1 []⟩ ⟨0,0⟩) rfl fun σ vs h=>cr (k:=3) (cr (k:=4) (cr (k:=6) (cr (k:=7) (cr (k:=8) (cr (k:=9) (cr (k:=10) h rfl fun v hv=>dg 1 hv) rfl fun v hv=>dg 1 hv) rfl fun v hv=>dg 1 hv) rfl fun v hv=>dg 4 hv) rfl fun v hv=>dg 2 hv) rfl fun v hv=>dg 2 hv) rfl fun v hv=>dg 9 hv) ?_
 refine cD ?_
 have hu:=cn s hs 0 (n:=4) (by omega)
 have hu:0≤(dr s 4 ⟨0,0⟩).1∧(dr s 4 ⟨0,0⟩).1 < 4:=hu
 generalize e1:dr s 4 ⟨0,0⟩=u at hu ⊢
 have hul:(aS mq)[u.1.toNat]?=some [aH (mq.getD u.1.toNat 0)]:=bG (jN (by simp only [mq,List.length_cons,List.length_nil];omega) 0)
 generalize hU:mq.getD u.1.toNat 0=U at hul
 repeat' (first|refine go ?_|refine HF a1 F8 ?_|(apply aX;first|refine aU a1 ?_|refine aK a1 ?_)|(apply aQ;first|refine HH 6 a1 0 HE ?_|refine HH 6 a1 1 HE ?_|refine HH 6 a1 2 HE ?_|refine HG a1 0 HD ?_|refine HG a1 1 HD ?_|refine HG a1 2 HD ?_|refine HG a1 3 HD ?_|fail))
 refine aV (aJ (L':=[dS b s ⟨aH U,.vec none 9 [],.vec none 2 [],bP,.vec none 2 [],.vec none 4 [],.vec none 1 [],.vec none 1 [],.vec none 1 []⟩ u.2,tB tb]) (Ho _)) ?_
 refine cD ?_
 have hk:=cn s hs u.2.a (n:=3) (by omega)
 have hk:0≤(dr s 3 u.2).1∧(dr s 3 u.2).1 < 3:=hk
 generalize e2:dr s 3 u.2=k1 at hk ⊢
 obtain ⟨k,hkk⟩:∃k:Nat,k1.1=k:=⟨k1.1.toNat,by omega⟩
 rw [hkk]
 repeat' (first|refine go ?_|refine ak ?_|refine HF a1 F8 ?_)
 refine aR [2,3,4] (α:=Nat×Option (Nat×Nat)) (fun x=>[(5,aH x.1)]) (fun x=>x.1≤k) (fun x=>[dS b s ⟨aH U,.vec none 9 [],.vec none 2 [],bP,.vec none 2 [],.vec x.2 4 ((kG s x.1 k1.2).1.map cO),.vec none 1 [],.vec none 1 [],.vec none 1 []⟩ (kG s x.1 k1.2).2,tB tb]++tok x.2 149 4 ((kG s x.1 k1.2).1.map cO).length) (fun x=>k - x.1) (0,none) rfl ⟨rfl,trivial⟩ (Nat.zero_le _) (fun _ _ h=>h) ?_
 rintro ⟨i,q⟩ hi
 dsimp only at hi ⊢
 have hal:=rd s i k1.2
 have hstep:kG s (i+1) k1.2=(c7 (dr s 3) fun a=>c7 (dr s 4) fun b=>cC ((kG s i k1.2).1++[(⟨j9 tk i,0 - a * 100,0,b * 100⟩:eu)])) (kG s i k1.2).2:=rfl
 try dsimp only [Hs,Hr,Hq,Hl]
 repeat' (first|refine go ?_|refine HF a1 F8 ?_)
 refine ay rfl (fun h=>?_) (fun h=>?_)
 ·have hil:i < k:=by have:=Hy h;omega
  generalize kG s i k1.2=A at hal hstep ⊢
  have halm:(A.1.map cO).length=A.1.length:=Hu ..
  repeat' (first|refine go ?_|refine ak ?_)
  refine bj 15 [(0,.v),(1,.v),(2,.v),(3,.v),(4,.v),(5,.v),(6,.v),(10,.v),(7,.e),(8,.v),(9,.v),(11,.e),(12,.v),(13,.v)] (some (14,.box _ 149)) ?_ ⟨_,rfl,rfl,fun _ _ _=>pg (fw a1 rfl) rfl⟩ rfl (by kernel_rfl) (by kernel_rfl) (by kernel_rfl) mixed (by kernel_rfl) rfl
  repeat' (first|refine aE ?_|refine ba a1 ?_|(apply dB;refine eK ?_)|fail)
  refine Aa a1 ?_
  rw [tZ i (by omega)]
  repeat' (first|refine aE ?_|refine ek a1 ?_|fail)
  refine wM a1 ?_
  rw [x6 i (by omega)]
  repeat' (first|refine aE ?_|fail)
  refine DN (hs:=Nat.le_of_ble_eq_true rfl) ?_
  rw [xP]
  repeat' (first|refine aE ?_|refine ba a1 ?_|fail)
  refine s8 ?_
  have ha:=cn s hs A.2.a (n:=3) (by omega)
  have ha:0≤(dr s 3 A.2).1∧(dr s 3 A.2).1 < 3:=ha
  unfold c7 at hstep
  generalize dr s 3 A.2=a at ha hstep ⊢
  dsimp only at hstep
  repeat' (first|refine aE ?_|(apply dB;refine eK ?_)|fail)
  refine s8 ?_
  have hc:=cn s hs a.2.a (n:=4) (by omega)
  have hc:0≤(dr s 4 a.2).1∧(dr s 4 a.2).1 < 4:=hc
  generalize dr s 4 a.2=c at hc hstep ⊢
  try dsimp only [cC] at hstep
  repeat' (first|refine aE ?_|refine ba a1 ?_|(apply dB;refine eK ?_)|fail)
  refine wP [2,3,4,5,6,52] (fun _=>_) (fun _=>rfl) rfl fun _=>?_
  rename_i ab
  refine aV (aJ (G2 (A:=[_,_]))) ?_
  repeat' (first|refine go ?_|(apply aQ;first|refine HH 6 a1 0 HE ?_|refine HH 6 a1 1 HE ?_|refine HH 6 a1 2 HE ?_|refine HG a1 0 HD ?_|refine HG a1 1 HD ?_|refine HG a1 2 HD ?_|refine HG a1 3 HD ?_|fail))
  refine bj 9 [(0,.v),(1,.v),(2,.v),(3,.v),(4,.v),(5,.l),(6,.v),(7,.v),(8,.e)] none ?_ trivial rfl (by kernel_rfl) (by kernel_rfl) (by kernel_rfl) mixed (by kernel_rfl) rfl
  repeat' (first|refine aE ?_|refine ba a1 ?_|refine ek a1 ?_|refine bX a1 0 rfl rfl rfl rfl (by first|trivial|rfl) ?_)
  refine fZ a1 _ rfl rfl rfl rfl (List.perm_append_comm (l₁:=[_,_])) (by simp;omega) (by simp;omega) (by first | trivial | rfl) fun q'=>?_
  refine HR [2,3,4,5,53,61] F8 ?_
  refine aV (aJ (List.perm_append_comm (l₂:=[_,_]))) ?_
  repeat' (first|refine go ?_|refine HF a1 F8 ?_|(apply aZ;refine aY ?_)|(apply aQ;first|refine HH 6 a1 0 HE ?_|refine HH 6 a1 1 HE ?_|refine HH 6 a1 2 HE ?_|refine HG a1 0 HD ?_|refine HG a1 1 HD ?_|refine HG a1 2 HD ?_|refine HG a1 3 HD ?_|fail))
  exact aF (i+1,q') rfl ⟨by rw [Hv];rfl,trivial⟩ (by dsimp only;omega) (by dsimp only;omega) (fun _ _ h=>by dsimp only;rw [hstep];dsimp only;rw [List.map_append];exact h)
 have hil:i=k:=by have:=Hx h;omega
 subst hil
 clear hstep
 have hal:=rd s i k1.2
 generalize e3:kG s i k1.2=A at hal ⊢
 repeat' (first|refine go ?_|refine HF a1 F8 ?_)
 refine bW (bE 0 rfl fun σ vs h=>cr (k:=7) (c':= .imm 4 (A.1.map cO)) h rfl fun v hv=>VR.im hv) ?_
 refine bW (cb (L':=[dS b s ⟨aH U,.vec none 9 [],.vec none 2 [],bP,.vec none 2 [],.imm 4 (A.1.map cO),.vec none 1 [],.vec none 1 [],.vec none 1 []⟩ A.2,tB tb]) (List.Sublist.cons_cons _ (List.Sublist.cons_cons _ (List.nil_sublist _)))) ?_
 refine s4 [2,3,4] ([dS b s ⟨aH U,.vec none 9 [],.vec none 2 [],bP,.vec none 2 [],.imm 4 (A.1.map cO),.imm 1 ((fC s i A.2).1.map bT),.vec none 1 [],.vec none 1 []⟩ (fC s i A.2).2,tB tb]) rfl (fun Q' K=>?_) ?_
 ·refine ay rfl (fun h=>?_) (fun h=>?_)
  ·have hi0:¬i=0:=by have:=Hy h;omega
   repeat' (first|refine go ?_|refine HF a1 F8 ?_)
   refine cD ?_
   have hn:=cn s hs A.2.a (n:=4) (by omega)
   have hn:0≤(dr s 4 A.2).1∧(dr s 4 A.2).1 < 4:=hn
   generalize e4:dr s 4 A.2=n1 at hn ⊢
   obtain ⟨n,hnn⟩:∃k:Nat,n1.1=k:=⟨n1.1.toNat,by omega⟩
   have hv:fC s i A.2=kp s i n n1.2:=by
    unfold fC
    rw [if_neg hi0]
    unfold c7
    rw [e4]
    dsimp only
    rw [hnn,Int.toNat_natCast]
   rw [hv] at K
   rw [hnn]
   repeat' (first|refine go ?_|refine ak ?_|refine HF a1 F8 ?_)
   refine aR [2,3,4,7] (α:=Nat×Option (Nat×Nat)) (fun x=>[(8,aH x.1)]) (fun x=>x.1≤n) (fun x=>[dS b s ⟨aH U,.vec none 9 [],.vec none 2 [],bP,.vec none 2 [],.imm 4 (A.1.map cO),.vec x.2 1 ((kp s i x.1 n1.2).1.map bT),.vec none 1 [],.vec none 1 []⟩ (kp s i x.1 n1.2).2,tB tb]++tok x.2 75 1 ((kp s i x.1 n1.2).1.map bT).length) (fun x=>n - x.1) (0,none) rfl ⟨rfl,trivial⟩ (Nat.zero_le _) (fun _ _ h=>h) ?_
   rintro ⟨j,q⟩ hj
   dsimp only at hj ⊢
   have hrl:=rI s i j n1.2
   have hstep:kp s i (j+1) n1.2=((kp s i j n1.2).1++[(i4 s i (kp s i j n1.2).2).1],(i4 s i (kp s i j n1.2).2).2):=rfl
   try dsimp only [Hs,Hr,Hq,Hl]
   repeat' (first|refine go ?_|refine HF a1 F8 ?_)
   refine ay rfl (fun h=>?_) (fun h=>?_)
   ·have hjn:j < n:=by have:=Hy h;omega
    generalize kp s i j n1.2=Rg at hrl hstep ⊢
    have hrlm:(Rg.1.map bT).length=Rg.1.length:=Hu ..
    repeat' (first|refine go ?_|refine ak ?_|refine HF a1 F8 ?_|refine bl a1 fun _=>?_|fail)
    rename_i rb
    refine bW (bE 0 (cs':=[.vec none 3 []]) rfl fun σ vs h=>cr (k:=0) h rfl fun v hv=>dg 3 hv) ?_
    refine bW (aJ (List.perm_middle (l₁:=[_,_])).symm) ?_
    refine aR [2,3,4,7,8,9] (α:=Nat×Option (Nat×Nat)) (fun x=>[(10,aH x.1)]) (fun x=>x.1≤i) (fun x=>[dS b s ⟨aH U,.vec none 9 [],.vec none 2 [],bP,.vec none 2 [],.imm 4 (A.1.map cO),.vec q 1 (Rg.1.map bT),.vec none 1 [],.vec none 1 []⟩ (i4 s x.1 Rg.2).2,tB tb,(rb,.box [.vec x.2 3 ((i4 s x.1 Rg.2).1.map kf)] 75)]++(tok x.2 151 3 ((i4 s x.1 Rg.2).1.map kf).length++tok q 75 1 (Rg.1.map bT).length)) (fun x=>i - x.1) (0,none) rfl ⟨rfl,trivial⟩ (Nat.zero_le _) (fun _ _ h=>h) ?_
    rintro ⟨a,qt⟩ ha
    dsimp only at ha ⊢
    have htl:=wA s a Rg.2
    have hstt:i4 s (a+1) Rg.2=(c7 (dr s 5) fun z=>cC ((i4 s a Rg.2).1++[k7.getD z.toNat ⟨0,0,0⟩])) (i4 s a Rg.2).2:=rfl
    try dsimp only [Hs,Hr,Hq,Hl]
    repeat' (first|refine go ?_|refine HF a1 F8 ?_)
    refine ay rfl (fun h=>?_) (fun h=>?_)
    ·have hai:a < i:=by have:=Hy h;omega
     generalize i4 s a Rg.2=Tn at htl hstt ⊢
     have htlm:(Tn.1.map kf).length=Tn.1.length:=Hu ..
     repeat' (first|refine go ?_|refine ak ?_)
     refine dD [.cell (rb,0,.vec qt 3 (Tn.1.map kf))] 13 [(0,.v),(1,.k),(2,.v),(3,.v),(4,.v),(5,.v),(6,.v),(7,.v),(8,.v),(9,.f),(10,.v),(11,.v),(12,.v)] none ?_ trivial rfl (by kernel_rfl) (by kernel_rfl) (by kernel_rfl) mixed (by kernel_rfl) rfl
     repeat' (first|refine aE ?_|refine ba a1 ?_|fail)
     refine eb a1 0 rfl rfl rfl (bN 2 rfl rfl c5) (by first | trivial | rfl) ?_
     repeat' (first|refine aE ?_|refine ba a1 ?_|refine ek a1 ?_|fail)
     refine eC (bN 2 rfl rfl c5) ?_
     have hz:=cn s hs Tn.2.a (n:=5) (by omega)
     have hz:0≤(dr s 5 Tn.2).1∧(dr s 5 Tn.2).1 < 5:=hz
     unfold c7 at hstt
     generalize dr s 5 Tn.2=z at hz hstt ⊢
     dsimp only [cC] at hstt
     have hzt:(k7.map kf)[z.1.toNat]?=some (kf (k7.getD z.1.toNat ⟨0,0,0⟩)):=by
      rw [List.getElem?_map,jN (l:=k7) (i:=z.1.toNat) (by simp only [k7,List.length_cons,List.length_nil];omega) ⟨0,0,0⟩]
      rfl
     generalize k7.getD z.1.toNat ⟨0,0,0⟩=tn at hzt hstt
     repeat' (first|refine aE ?_|refine ba a1 ?_|(apply co;refine cJ a1 ?_)|refine ek a1 ?_|fail)
     refine HR [2,3,4,7,8,9,10,80,91] F8 ?_
     repeat' (first|fail)
     refine cj a1 _ rfl rfl rfl rfl (eF (A:=[_,_,_])) (by simp;omega) (by simp;omega) rfl fun q'=>?_
     refine aV (aJ (eF (A:=[_,_,_])).symm) ?_
     repeat' (first|refine go ?_|refine HF a1 F8 ?_|(apply aZ;refine aY ?_)|(apply aQ;first|refine HH 6 a1 0 HE ?_|refine HH 6 a1 1 HE ?_|refine HH 6 a1 2 HE ?_|refine HG a1 0 HD ?_|refine HG a1 1 HD ?_|refine HG a1 2 HD ?_|refine HG a1 3 HD ?_|fail))
     exact aF (a+1,q') rfl ⟨by rw [Hv];rfl,trivial⟩ (by dsimp only;omega) (by dsimp only;omega) (fun _ _ h=>by dsimp only;rw [hstt];dsimp only;rw [List.map_append];exact h)
    have hai:a=i:=by have:=Hx h;omega
    subst hai
    clear hstt htl
    generalize i4 s a Rg.2=Tn at hstep ⊢
    repeat' (first|refine go ?_|fail)
    refine bW (bE 2 (cs':=[.imm 3 (Tn.1.map kf)]) rfl fun σ vs h=>cr (k:=0) h rfl fun v hv=>VR.im hv) ?_
    refine bW (cb (L':=[dS b s ⟨aH U,.vec none 9 [],.vec none 2 [],bP,.vec none 2 [],.imm 4 (A.1.map cO),.vec q 1 (Rg.1.map bT),.vec none 1 [],.vec none 1 []⟩ Tn.2,tB tb,(rb,.box (bT Tn.1) 75)]++tok q 75 1 (Rg.1.map bT).length) (List.Sublist.cons_cons _ (List.Sublist.cons_cons _ (List.Sublist.cons_cons _ (List.sublist_append_right _ _))))) ?_
    refine bj 9 [(0,.v),(1,.v),(2,.v),(3,.v),(4,.v),(5,.l),(6,.l),(7,.v),(8,.e)] none ?_ trivial rfl (by kernel_rfl) (by kernel_rfl) (by kernel_rfl) mixed (by kernel_rfl) rfl
    repeat' (first|refine aE ?_|refine ba a1 ?_|refine bX a1 0 rfl rfl rfl rfl (by first|trivial|rfl) ?_)
    refine wO a1 2 rfl rfl rfl rfl (by first | trivial | rfl) ?_
    repeat' (first|refine aE ?_|refine ek a1 ?_|fail)
    refine fZ a1 _ rfl rfl rfl rfl (List.perm_append_comm (l₁:=[_,_,_])) (by simp;omega) (by simp;omega) (by first | trivial | rfl) fun q'=>?_
    refine HR [2,3,4,7,8,94,102] F8 ?_
    refine aV (aJ (List.perm_append_comm (l₂:=[_,_,_]))) ?_
    repeat' (first|refine go ?_|refine HF a1 F8 ?_|(apply aZ;refine aY ?_)|(apply aQ;first|refine HH 6 a1 0 HE ?_|refine HH 6 a1 1 HE ?_|refine HH 6 a1 2 HE ?_|refine HG a1 0 HD ?_|refine HG a1 1 HD ?_|refine HG a1 2 HD ?_|refine HG a1 3 HD ?_|fail))
    exact aF (j+1,q') rfl ⟨by rw [Hv];rfl,trivial⟩ (by dsimp only;omega) (by dsimp only;omega) (fun _ _ h=>by dsimp only;rw [hstep];dsimp only;rw [List.map_append];exact h.sublist (List.Sublist.cons_cons _ (List.Sublist.cons_cons _ (List.sublist_cons_self ..))))
   have hjn:j=n:=by have:=Hx h;omega
   subst hjn
   generalize kp s i j n1.2=Rg at K ⊢
   repeat' (first|refine go ?_|fail)
   refine bk (bE 0 rfl fun σ vs h=>cr (k:=8) (c':= .imm 1 (Rg.1.map bT)) h rfl fun v hv=>VR.im hv) ?_
   refine bk (cb (L':=[dS b s ⟨aH U,.vec none 9 [],.vec none 2 [],bP,.vec none 2 [],.imm 4 (A.1.map cO),.imm 1 (Rg.1.map bT),.vec none 1 [],.vec none 1 []⟩ Rg.2,tB tb]) (List.Sublist.cons_cons _ (List.Sublist.cons_cons _ (List.nil_sublist _)))) ?_
   exact K _ rfl
  ·have hi0:i=0:=by have:=Hx h;omega
   have hv:fC s i A.2=([],A.2):=by
    unfold fC
    rw [if_pos hi0]
    rfl
   rw [hv] at K
   repeat' (first|refine go ?_|fail)
   refine bk (bE 0 rfl fun σ vs h=>cr (k:=8) (c':= .imm 1 []) h rfl fun v hv=>VR.im hv) ?_
   exact K _ rfl
 generalize e4:fC s i A.2=rg
 repeat' (first|refine go ?_|refine HF a1 F8 ?_)
 refine cD ?_
 have hk2:=cn s hs rg.2.a (n:=3) (by omega)
 have hk2:0≤(dr s 3 rg.2).1∧(dr s 3 rg.2).1 < 3:=hk2
 generalize e5:dr s 3 rg.2=k2 at hk2 ⊢
 obtain ⟨k',hkk2⟩:∃k:Nat,k2.1=k:=⟨k2.1.toNat,by omega⟩
 rw [hkk2]
 repeat' (first|refine go ?_|refine ak ?_|refine HF a1 F8 ?_)
 refine aR [2,3,4] (α:=Nat×Option (Nat×Nat)) (fun x=>[(11,aH x.1)]) (fun x=>x.1≤k') (fun x=>[dS b s ⟨aH U,.vec none 9 [],.vec none 2 [],bP,.vec none 2 [],.imm 4 (A.1.map cO),.imm 1 (rg.1.map bT),.vec x.2 1 ((ix s x.1 k2.2).1.map dE),.vec none 1 []⟩ (ix s x.1 k2.2).2,tB tb]++tok x.2 62 1 ((ix s x.1 k2.2).1.map dE).length) (fun x=>k' - x.1) (0,none) rfl ⟨rfl,trivial⟩ (Nat.zero_le _) (fun _ _ h=>h) ?_
 rintro ⟨j,q2⟩ hj
 dsimp only at hj ⊢
 have hfl:=vC s j k2.2
 have hstep:ix s (j+1) k2.2=(c7 (gO 0) fun _=>c7 (mL s 6 j 4) fun h=>cC ((ix s j k2.2).1++[h])) (ix s j k2.2).2:=rfl
 try dsimp only [Hs,Hr,Hq,Hl]
 repeat' (first|refine go ?_|refine HF a1 F8 ?_)
 refine ay rfl (fun h=>?_) (fun h=>?_)
 ·have hjk:j < k':=by have:=Hy h;omega
  generalize ix s j k2.2=Fu at hfl hstep ⊢
  have hflm:(Fu.1.map dE).length=Fu.1.length:=Hu ..
  unfold c7 at hstep
  repeat' (first|refine go ?_|refine ak ?_|refine HF a1 F8 ?_|(apply aQ;first|refine HH 6 a1 0 HE ?_|refine HH 6 a1 1 HE ?_|refine HH 6 a1 2 HE ?_|refine HG a1 0 HD ?_|refine HG a1 1 HD ?_|refine HG a1 2 HD ?_|refine HG a1 3 HD ?_|fail))
  refine bW (aJ (L':=[dS b s ⟨aH U,.vec none 9 [],.vec none 2 [],bP,.vec none 2 [],.imm 4 (A.1.map cO),.imm 1 (rg.1.map bT),.vec q2 1 (Fu.1.map dE),.vec none 1 []⟩ (gO 0 Fu.2).2,tB tb]++tok q2 62 1 (Fu.1.map dE).length) (Ho _)) ?_
  generalize (gO 0 Fu.2).2=w at hstep ⊢
  dsimp only at hstep
  refine dD [.cell (b,9,.vec q2 1 (Fu.1.map dE))] 11 [(0,.v),(1,.v),(2,.v),(3,.v),(4,.v),(5,.k),(6,.v),(7,.v),(8,.f),(9,.v),(10,.e)] none ?_ trivial rfl (by kernel_rfl) (by kernel_rfl) (by kernel_rfl) mixed (by kernel_rfl) rfl
  repeat' (first|refine aE ?_|refine ba a1 ?_|fail)
  refine eb a1 0 rfl rfl rfl (bN 0 rfl rfl c5) (by first | trivial | rfl) ?_
  repeat' (first|refine aE ?_|refine ba a1 ?_|fail)
  refine re (ru s hs _ (n:=6) (fn:=(j:Int)) (most:=4) (by omega) (by omega) (by omega)) (bN 0 rfl rfl c5) ?_
  generalize mL s 6 j 4 w=hi at hstep ⊢
  try dsimp only [cC] at hstep
  unfold ji
  repeat' (first|refine aE ?_|refine ek a1 ?_|fail)
  refine fZ a1 _ rfl rfl rfl rfl (List.perm_append_comm (l₁:=[_,_])) (by simp;omega) (by simp;omega) (by first | trivial | rfl) fun q'=>?_
  refine HR [2,3,4,11,116,126] F8 ?_
  refine aV (aJ (List.perm_append_comm (l₂:=[_,_]))) ?_
  repeat' (first|refine go ?_|refine HF a1 F8 ?_|(apply aZ;refine aY ?_)|(apply aQ;first|refine HH 6 a1 0 HE ?_|refine HH 6 a1 1 HE ?_|refine HH 6 a1 2 HE ?_|refine HG a1 0 HD ?_|refine HG a1 1 HD ?_|refine HG a1 2 HD ?_|refine HG a1 3 HD ?_|fail))
  exact aF (j+1,q') rfl ⟨by rw [Hv];rfl,trivial⟩ (by dsimp only;omega) (by dsimp only;omega) (fun _ _ h=>by dsimp only;rw [hstep];dsimp only;rw [List.map_append];exact h)
 have hjk:j=k':=by have:=Hx h;omega
 subst hjk
 clear hstep
 generalize e6:ix s j k2.2=fu at hfl ⊢
 repeat' (first|refine go ?_|refine HF a1 F8 ?_)
 refine aV (bE 0 rfl fun σ vs h=>cr (k:=9) (c':= .imm 1 (fu.1.map dE)) h rfl fun v hv=>VR.im hv) ?_
 refine aV (cb (L':=[dS b s ⟨aH U,.vec none 9 [],.vec none 2 [],bP,.vec none 2 [],.imm 4 (A.1.map cO),.imm 1 (rg.1.map bT),.imm 1 (fu.1.map dE),.vec none 1 []⟩ fu.2,tB tb]) (List.Sublist.cons_cons _ (List.Sublist.cons_cons _ (List.nil_sublist _)))) ?_
 refine cD ?_
 have hk3:=cn s hs fu.2.a (n:=4) (by omega)
 have hk3:0≤(dr s 4 fu.2).1∧(dr s 4 fu.2).1 < 4:=hk3
 generalize e7:dr s 4 fu.2=k3 at hk3 ⊢
 obtain ⟨k'',hkk3⟩:∃k:Nat,k3.1=k:=⟨k3.1.toNat,by omega⟩
 rw [hkk3]
 repeat' (first|refine go ?_|refine ak ?_|refine HF a1 F8 ?_)
 refine aR [2,3,4] (α:=Nat×Option (Nat×Nat)) (fun x=>[(12,aH x.1)]) (fun x=>x.1≤k'') (fun x=>[dS b s ⟨aH U,.vec none 9 [],.vec none 2 [],bP,.vec none 2 [],.imm 4 (A.1.map cO),.imm 1 (rg.1.map bT),.imm 1 (fu.1.map dE),.vec x.2 1 (aS (py s x.1 k3.2).1)⟩ (py s x.1 k3.2).2,tB tb]++tok x.2 3 1 (aS (py s x.1 k3.2).1).length) (fun x=>k'' - x.1) (0,none) rfl ⟨rfl,trivial⟩ (Nat.zero_le _) (fun _ _ h=>h) ?_
 rintro ⟨jc,q3⟩ hjc
 dsimp only at hjc ⊢
 have hcl:=A8 s jc k3.2
 have hstep:py s (jc+1) k3.2=(c7 (dr s 500) fun z=>cC ((py s jc k3.2).1++[z - 100])) (py s jc k3.2).2:=rfl
 try dsimp only [Hs,Hr,Hq,Hl]
 repeat' (first|refine go ?_|refine HF a1 F8 ?_)
 refine ay rfl (fun h=>?_) (fun h=>?_)
 ·have hjk:jc < k'':=by have:=Hy h;omega
  generalize py s jc k3.2=C at hcl hstep ⊢
  have hclm:(aS C.1).length=C.1.length:=aN _
  unfold c7 at hstep
  repeat' (first|refine go ?_|refine ak ?_)
  refine dD [.cell (b,10,.vec q3 1 (aS C.1))] 11 [(0,.v),(1,.v),(2,.v),(3,.v),(4,.v),(5,.k),(6,.v),(7,.f),(8,.v),(9,.v),(10,.e)] none ?_ trivial rfl (by kernel_rfl) (by kernel_rfl) (by kernel_rfl) mixed (by kernel_rfl) rfl
  repeat' (first|refine aE ?_|refine ba a1 ?_|fail)
  refine eb a1 0 rfl rfl rfl (bN 0 rfl rfl c5) (by first | trivial | rfl) ?_
  repeat' (first|refine aE ?_|refine ba a1 ?_|fail)
  refine eC (bN 0 rfl rfl c5) ?_
  have hz:=cn s hs C.2.a (n:=500) (by omega)
  have hz:0≤(dr s 500 C.2).1∧(dr s 500 C.2).1 < 500:=hz
  generalize dr s 500 C.2=z at hz hstep ⊢
  try dsimp only [cC] at hstep
  repeat' (first|refine aE ?_|(apply dB;refine eK ?_)|refine ek a1 ?_|fail)
  refine fZ a1 _ rfl rfl rfl rfl (List.perm_append_comm (l₁:=[_,_])) (by simp [aN];omega) (by simp [aN];omega) (by first | trivial | rfl) fun q'=>?_
  refine HR [2,3,4,12,137,147] F8 ?_
  refine aV (aJ (List.perm_append_comm (l₂:=[_,_]))) ?_
  repeat' (first|refine go ?_|refine HF a1 F8 ?_|(apply aZ;refine aY ?_)|(apply aQ;first|refine HH 6 a1 0 HE ?_|refine HH 6 a1 1 HE ?_|refine HH 6 a1 2 HE ?_|refine HG a1 0 HD ?_|refine HG a1 1 HD ?_|refine HG a1 2 HD ?_|refine HG a1 3 HD ?_|fail))
  exact aF (jc+1,q') rfl ⟨by rw [Hv];rfl,trivial⟩ (by dsimp only;omega) (by dsimp only;omega) (fun _ _ h=>by dsimp only;rw [hstep];dsimp only;rw [show aS (C.1++[z.1 - 100])=aS C.1++[[aH (z.1 - 100)]] from List.map_append ..];exact h)
 have hjk:jc=k'':=by have:=Hx h;omega
 subst hjk
 clear hstep
 generalize e8:py s jc k3.2=cv at hcl ⊢
 repeat' (first|refine go ?_|refine HF a1 F8 ?_)
 refine aV (bE 0 rfl fun σ vs h=>cr (k:=10) (c':= .imm 1 (aS cv.1)) h rfl fun v hv=>VR.im hv) ?_
 refine aV (cb (L':=[dS b s ⟨aH U,.vec none 9 [],.vec none 2 [],bP,.vec none 2 [],.imm 4 (A.1.map cO),.imm 1 (rg.1.map bT),.imm 1 (fu.1.map dE),.imm 1 (aS cv.1)⟩ cv.2,tB tb]) (List.Sublist.cons_cons _ (List.Sublist.cons_cons _ (List.nil_sublist _)))) ?_
 refine cD ?_
 have hk4:=cn s hs cv.2.a (n:=9) (by omega)
 have hk4:0≤(dr s 9 cv.2).1∧(dr s 9 cv.2).1 < 9:=hk4
 generalize e9:dr s 9 cv.2=k4 at hk4 ⊢
 obtain ⟨n,hkk4⟩:∃k:Nat,2+k4.1=k:=⟨(2+k4.1).toNat,by omega⟩
 repeat' (first|refine go ?_|refine ak ?_|refine HF a1 F8 ?_|(apply aZ;refine aY ?_)|fail)
 rw [hkk4]
 have hrgl:(rg.1.map bT).length=rg.1.length:=Hu ..
 have hful:(fu.1.map dE).length=fu.1.length:=Hu ..
 have hrg3:rg.1.length≤1000:=by
  have hR:bU (fC s A.1.length) fun l=>l.length≤3:=bU.ite (fun _=>bU.ret (Nat.zero_le _)) fun _=>(cS s (by omega)).bnd fun n hn m=>by rw [rI];omega
  have:=hR A.2
  rw [hal] at this
  rw [←e4]
  omega
 refine aR [2,3,4] (α:=Nat×Option (Nat×Nat)) (fun x=>[(13,aH x.1)]) (fun x=>x.1≤n) (fun x=>[dS b s ⟨aH U,.vec x.2 9 ((g9 s rg.1.length fu.1.length x.1 k4.2).1.map bS),.vec none 2 [],bP,.vec none 2 [],.imm 4 (A.1.map cO),.imm 1 (rg.1.map bT),.imm 1 (fu.1.map dE),.imm 1 (aS cv.1)⟩ (g9 s rg.1.length fu.1.length x.1 k4.2).2,tB tb]++tok x.2 64 9 ((g9 s rg.1.length fu.1.length x.1 k4.2).1.map bS).length) (fun x=>n - x.1) (0,none) rfl ⟨rfl,trivial⟩ (Nat.zero_le _) (fun _ _ h=>h) ?_
 rintro ⟨jg,q4⟩ hjg
 dsimp only at hjg ⊢
 have hgl:=tO s rg.1.length fu.1.length jg k4.2
 have hstep:g9 s rg.1.length fu.1.length (jg+1) k4.2=(c7 (jO s rg.1.length fu.1.length jg) fun g=>cC ((g9 s rg.1.length fu.1.length jg k4.2).1++[g])) (g9 s rg.1.length fu.1.length jg k4.2).2:=rfl
 try dsimp only [Hs,Hr,Hq,Hl]
 repeat' (first|refine go ?_|refine HF a1 F8 ?_)
 refine ay rfl (fun h=>?_) (fun h=>?_)
 ·have hjn:jg < n:=by have:=Hy h;omega
  generalize g9 s rg.1.length fu.1.length jg k4.2=Gs at hgl hstep ⊢
  have hglm:(Gs.1.map bS).length=Gs.1.length:=Hu ..
  unfold c7 at hstep
  repeat' (first|refine go ?_|refine ak ?_|refine HF a1 F8 ?_)
  refine bb ([dS b s ⟨aH U,.vec q4 9 (Gs.1.map bS),.vec none 2 [],bP,.vec none 2 [],.imm 4 (A.1.map cO),.imm 1 (rg.1.map bT),.imm 1 (fu.1.map dE),.imm 1 (aS cv.1)⟩ Gs.2]++(tok q4 64 9 (Gs.1.map bS).length++[])) [tB tb] (Ar s hs ⟨aH U,.vec q4 9 (Gs.1.map bS),.vec none 2 [],bP,.vec none 2 [],.imm 4 (A.1.map cO),.imm 1 (rg.1.map bT),.imm 1 (fu.1.map dE),.imm 1 (aS cv.1)⟩ rfl rfl rfl rg.1.length fu.1.length jg hrgl hful (by omega) (by omega) (by omega) (by omega) b Gs.2) rfl rfl Bn rfl fun c L1 ⟨q',hL1⟩=>?_
  subst hL1
  refine aV (aJ Bn.symm) ?_
  generalize jO s rg.1.length fu.1.length jg Gs.2=g at hstep ⊢
  try dsimp only [cC] at hstep
  repeat' (first|refine go ?_|refine HF a1 F8 ?_|(apply aZ;refine aY ?_)|fail)
  exact aF (jg+1,q') rfl ⟨by rw [Hv];rfl,trivial⟩ (by dsimp only;omega) (by dsimp only;omega) (fun _ _ h=>by dsimp only;rw [hstep];dsimp only;rw [List.map_append];exact h)
 have hjn:jg=n:=by have:=Hx h;omega
 subst hjn
 clear hstep
 generalize e10:g9 s rg.1.length fu.1.length jg k4.2=gl at hgl ⊢
 have hglm:(gl.1.map bS).length=gl.1.length:=Hu ..
 repeat' (first|refine go ?_|fail)
 refine bf (hc:=⟨yY⟩) ?_
 refine aV (cb (L':=[dS b s ⟨aH U,.vec q4 9 (gl.1.map bS),.vec none 2 [],bP,.vec none 2 [],.imm 4 (A.1.map cO),.imm 1 (rg.1.map bT),.imm 1 (fu.1.map dE),.imm 1 (aS cv.1)⟩ gl.2,tB tb]) (List.Sublist.cons_cons _ (List.Sublist.cons_cons _ (List.nil_sublist _)))) ?_
 repeat' (first|refine go ?_|refine ak ?_|refine HF a1 F8 ?_)
 have hr16:(aS ez).length=16:=rfl
 refine aR [2,3,14] (α:=Nat×Option (Nat×Nat)) (fun x=>[(15,aH x.1)]) (fun x=>x.1≤16) (fun x=>[dS b s ⟨aH U,.vec q4 9 (gl.1.map bS),.vec x.2 2 ((gW s gl.1.length x.1 gl.2).1.map dJ),bP,.vec none 2 [],.imm 4 (A.1.map cO),.imm 1 (rg.1.map bT),.imm 1 (fu.1.map dE),.imm 1 (aS cv.1)⟩ (gW s gl.1.length x.1 gl.2).2,tB tb]++tok x.2 50 2 ((gW s gl.1.length x.1 gl.2).1.map dJ).length) (fun x=>16 - x.1) (0,none) rfl ⟨rfl,trivial⟩ (Nat.zero_le _) (fun _ _ h=>h) ?_
 rintro ⟨jr,q5⟩ hjr
 dsimp only at hjr ⊢
 have hcl2:=vm s gl.1.length jr gl.2
 have hstep:gW s gl.1.length (jr+1) gl.2=(c7 (dr s 4) fun z=>if 0 < z then c7 (dr s gl.1.length) fun g=>cC ((gW s gl.1.length jr gl.2).1++[(⟨ez.getD jr 0,g⟩:f0)]) else cC (gW s gl.1.length jr gl.2).1) (gW s gl.1.length jr gl.2).2:=rfl
 try dsimp only [Hs,Hr,Hq,Hl]
 repeat' (first|refine go ?_|refine HF a1 F8 ?_)
 refine ay rfl (fun h=>?_) (fun h=>?_)
 ·have hj16:jr < 16:=by have:=Hy h;rw [hr16] at this;omega
  have hrn:(aS ez)[jr]?=some [aH (ez.getD jr 0)]:=bG (jN hj16 0)
  generalize ez.getD jr 0=rn at hrn hstep
  generalize gW s gl.1.length jr gl.2=Ch at hcl2 hstep ⊢
  have hchm:(Ch.1.map dJ).length=Ch.1.length:=Hu ..
  unfold c7 at hstep
  repeat' (first|refine go ?_|refine ak ?_|refine HF a1 F8 ?_)
  refine cD ?_
  generalize dr s 4 Ch.2=z at hstep ⊢
  dsimp only at hstep
  repeat' (first|refine go ?_|refine HF a1 F8 ?_)
  refine ay rfl (fun hz=>?_) (fun hz=>?_)
  ·rw [if_pos (Hy hz)] at hstep
   repeat' (first|fail)
   refine dD [.cell (b,4,.vec q5 2 (Ch.1.map dJ))] 21 [(0,.v),(1,.v),(2,.v),(3,.v),(4,.v),(5,.k),(6,.v),(7,.v),(8,.v),(9,.v),(10,.v),(11,.v),(12,.v),(13,.v),(14,.v),(15,.l),(16,.v),(17,.f),(18,.v),(19,.v),(20,.e)] none ?_ trivial rfl (by kernel_rfl) (by kernel_rfl) (by kernel_rfl) mixed (by kernel_rfl) rfl
   repeat' (first|refine aE ?_|refine ba a1 ?_|fail)
   refine eb a1 0 rfl rfl rfl (bN 0 rfl rfl c5) (by first | trivial | rfl) ?_
   repeat' (first|refine aE ?_|refine ba a1 ?_|(apply co;refine cJ a1 ?_)|refine bX a1 0 rfl rfl rfl rfl (by first|trivial|rfl) ?_)
   rw [hglm]
   refine eC (bN 0 rfl rfl c5) ?_
   generalize dr s gl.1.length z.2=g at hstep ⊢
   try dsimp only [cC] at hstep
   repeat' (first|refine aE ?_|refine ba a1 ?_|refine ek a1 ?_|fail)
   refine fZ a1 _ rfl rfl rfl rfl (List.perm_append_comm (l₁:=[_,_])) (by simp;omega) (by simp;omega) (by first | trivial | rfl) fun q'=>?_
   refine HR [2,3,14,15,172,192] F8 ?_
   refine aV (aJ (List.perm_append_comm (l₂:=[_,_]))) ?_
   repeat' (first|refine go ?_|refine HF a1 F8 ?_|(apply aZ;refine aY ?_)|(apply aQ;first|refine HH 6 a1 0 HE ?_|refine HH 6 a1 1 HE ?_|refine HH 6 a1 2 HE ?_|refine HG a1 0 HD ?_|refine HG a1 1 HD ?_|refine HG a1 2 HD ?_|refine HG a1 3 HD ?_|fail))
   exact aF (jr+1,q') rfl ⟨by rw [Hv];rfl,trivial⟩ (by dsimp only;omega) (by dsimp only;omega) (fun _ _ h=>by dsimp only;rw [hstep];dsimp only;rw [List.map_append];exact h)
  ·rw [if_neg (Hx hz)] at hstep
   try dsimp only [cC] at hstep
   repeat' (first|refine go ?_|refine HF a1 F8 ?_|(apply aZ;refine aY ?_)|fail)
   exact aF (jr+1,q5) rfl ⟨by rw [Hv];rfl,trivial⟩ (by dsimp only;omega) (by dsimp only;omega) (fun _ _ h=>by dsimp only;rw [hstep];exact h)
 have hj16:jr=16:=by have:=Hx h;rw [hr16] at this;omega
 subst hj16
 clear hstep
 generalize e11:gW s gl.1.length 16 gl.2=ch at hcl2 ⊢
 repeat' (first|refine go ?_|refine HF a1 F8 ?_)
 refine aV (bE 0 rfl fun σ vs h=>cr (k:=4) (c':= .imm 2 (ch.1.map dJ)) h rfl fun v hv=>VR.im hv) ?_
 refine aV (cb (L':=[dS b s ⟨aH U,.vec q4 9 (gl.1.map bS),.imm 2 (ch.1.map dJ),bP,.vec none 2 [],.imm 4 (A.1.map cO),.imm 1 (rg.1.map bT),.imm 1 (fu.1.map dE),.imm 1 (aS cv.1)⟩ ch.2]++[tB tb]) (List.Sublist.cons_cons _ (List.Sublist.cons_cons _ (List.nil_sublist _)))) ?_
 refine bb [dS b s ⟨aH U,.vec q4 9 (gl.1.map bS),.imm 2 (ch.1.map dJ),bP,.vec none 2 [],.imm 4 (A.1.map cO),.imm 1 (rg.1.map bT),.imm 1 (fu.1.map dE),.imm 1 (aS cv.1)⟩ ch.2] [tB tb] (vU s hs ⟨aH U,.vec q4 9 (gl.1.map bS),.imm 2 (ch.1.map dJ),bP,.vec none 2 [],.imm 4 (A.1.map cO),.imm 1 (rg.1.map bT),.imm 1 (fu.1.map dE),.imm 1 (aS cv.1)⟩ rfl rfl gl.1.length hglm (by omega) b ch.2) rfl rfl (Ho _) rfl fun c L1 hL1=>?_
 subst hL1
 have hlk6:=(oC s (n:=gl.1.length) (by omega) ch.2).len
 generalize e12:iz s gl.1.length ch.2=lk at hlk6 ⊢
 have hlkm:(lk.1.map bF).length=lk.1.length:=Hu ..
 repeat' (first|refine go ?_|fail)
 refine bf (hc:=⟨ud⟩) ?_
 refine aV (aJ (L':=[dS b s ⟨aH U,.vec q4 9 (gl.1.map bS),.imm 2 (ch.1.map dJ),.imm 3 (lk.1.map bF),.vec none 2 [],.imm 4 (A.1.map cO),.imm 1 (rg.1.map bT),.imm 1 (fu.1.map dE),.imm 1 (aS cv.1)⟩ lk.2,tB tb]) (Ho _)) ?_
 repeat' (first|refine go ?_|refine ak ?_|refine HF a1 F8 ?_)
 have hn8:(jZ eV).length=8:=rfl
 refine aR [2,3,16] (α:=Nat×Option (Nat×Nat)) (fun x=>[(17,aH x.1)]) (fun x=>x.1≤8) (fun x=>[dS b s ⟨aH U,.vec q4 9 (gl.1.map bS),.imm 2 (ch.1.map dJ),.imm 3 (lk.1.map bF),.vec x.2 2 ((gY s lk.1.length x.1 lk.2).1.map c8),.imm 4 (A.1.map cO),.imm 1 (rg.1.map bT),.imm 1 (fu.1.map dE),.imm 1 (aS cv.1)⟩ (gY s lk.1.length x.1 lk.2).2,tB tb]++tok x.2 72 2 ((gY s lk.1.length x.1 lk.2).1.map c8).length) (fun x=>8 - x.1) (0,none) rfl ⟨rfl,trivial⟩ (Nat.zero_le _) (fun _ _ h=>h) ?_
 rintro ⟨jf,q6⟩ hjf
 dsimp only at hjf ⊢
 have hftl:=vw s lk.1.length jf lk.2
 have hstep:gY s lk.1.length (jf+1) lk.2=(c7 (nz s lk.1.length) fun r=>c7 (dr s 2) fun z=>cC (if z=0 then (gY s lk.1.length jf lk.2).1++[(⟨eV.getD jf ByteArray.empty,r⟩:bV)] else (gY s lk.1.length jf lk.2).1)) (gY s lk.1.length jf lk.2).2:=rfl
 try dsimp only [Hs,Hr,Hq,Hl]
 repeat' (first|refine go ?_|refine HF a1 F8 ?_)
 refine ay rfl (fun h=>?_) (fun h=>?_)
 ·have hj8:jf < 8:=by have:=Hy h;rw [hn8] at this;omega
  have hnm:(jZ eV)[jf]?=some [uL (eV.getD jf ByteArray.empty)]:=uI (jN hj8 ByteArray.empty)
  generalize eV.getD jf ByteArray.empty=nm at hnm hstep
  generalize gY s lk.1.length jf lk.2=Ft at hftl hstep ⊢
  have hftm:(Ft.1.map c8).length=Ft.1.length:=Hu ..
  unfold c7 at hstep
  repeat' (first|refine go ?_|refine ak ?_|refine HF a1 F8 ?_)
  refine bW (cA (t:=18) (c':= .vec none 1 []) rfl fun σ v h=>dg 1 h) ?_
  refine aR [2,3,16,17] (α:=Nat×Option (Nat×Nat)) (fun x=>[(19,aH x.1),(18,.vec x.2 1 (aS (nz s x.1 Ft.2).1))]) (fun x=>x.1≤lk.1.length) (fun x=>[dS b s ⟨aH U,.vec q4 9 (gl.1.map bS),.imm 2 (ch.1.map dJ),.imm 3 (lk.1.map bF),.vec q6 2 (Ft.1.map c8),.imm 4 (A.1.map cO),.imm 1 (rg.1.map bT),.imm 1 (fu.1.map dE),.imm 1 (aS cv.1)⟩ (nz s x.1 Ft.2).2,tB tb]++(tok x.2 3 1 (aS (nz s x.1 Ft.2).1).length++tok q6 72 2 (Ft.1.map c8).length)) (fun x=>lk.1.length - x.1) (0,none) rfl ⟨rfl,rfl,trivial⟩ (Nat.zero_le _) (fun _ _ h=>h) ?_
  rintro ⟨a,q7⟩ ha
  dsimp only at ha ⊢
  have hal7:=zU s a Ft.2
  have hst7:nz s (a+1) Ft.2=(c7 (dr s 3) fun z=>cC (if z=0 then (nz s a Ft.2).1++[(a:Int)] else (nz s a Ft.2).1)) (nz s a Ft.2).2:=rfl
  try dsimp only [Hs,Hr,Hq,Hl]
  repeat' (first|refine go ?_|refine HF a1 F8 ?_|(apply bh;first|refine HJ a1 0 HC ?_|refine HJ a1 1 HC ?_|refine HJ a1 2 HC ?_|refine HJ a1 3 HC ?_|refine HK a1 0 HC ?_|refine HK a1 1 HC ?_|refine HK a1 2 HC ?_|refine HM a1 1 HA (by assumption) rfl ?_|refine HM a1 0 HA (by assumption) rfl ?_|fail)|fail)
  refine ay rfl (fun h=>?_) (fun h=>?_)
  ·have hal:a < lk.1.length:=by have:=Hy h;rw [hlkm] at this;omega
   generalize nz s a Ft.2=As at hal7 hst7 ⊢
   have hasm:(aS As.1).length=As.1.length:=aN _
   unfold c7 at hst7
   repeat' (first|refine go ?_|refine ak ?_|refine HF a1 F8 ?_)
   refine cD ?_
   generalize dr s 3 As.2=z at hst7 ⊢
   dsimp only [cC] at hst7
   repeat' (first|refine go ?_|refine HF a1 F8 ?_)
   refine ay rfl (fun hz=>?_) (fun hz=>?_)
   ·rw [if_pos (Hy hz)] at hst7
    repeat' (first|refine go ?_|refine HF a1 F8 ?_|refine bI a1 ?_|fail)
    refine cj a1 _ rfl rfl rfl rfl (eF (A:=[_,_])) (by simp [aN];omega) (by simp [aN];omega) rfl fun q'=>?_
    refine aV (aJ (eF (A:=[_,_])).symm) ?_
    repeat' (first|refine go ?_|refine HF a1 F8 ?_|(apply aZ;refine aY ?_)|fail)
    exact aF (a+1,q') rfl ⟨by rw [Hv];rfl,by rw [hst7];dsimp only;rw [show aS (As.1++[(a:Int)])=aS As.1++[[aH (a:Int)]] from List.map_append ..];rfl,trivial⟩ (by dsimp only;omega) (by dsimp only;omega) (fun _ _ h=>by dsimp only;rw [hst7];dsimp only;rw [show aS (As.1++[(a:Int)])=aS As.1++[[aH (a:Int)]] from List.map_append ..];exact h)
   ·rw [if_neg (Hx hz)] at hst7
    repeat' (first|refine go ?_|refine HF a1 F8 ?_|(apply aZ;refine aY ?_)|fail)
    exact aF (a+1,q7) rfl ⟨by rw [Hv];rfl,by rw [hst7];rfl,trivial⟩ (by dsimp only;omega) (by dsimp only;omega) (fun _ _ h=>by dsimp only;rw [hst7];exact h)
  have hal:a=lk.1.length:=by have:=Hx h;rw [hlkm] at this;omega
  subst hal
  clear hst7
  generalize nz s lk.1.length Ft.2=As at hal7 hstep ⊢
  dsimp only at hstep
  repeat' (first|refine go ?_|refine HF a1 F8 ?_)
  refine aV (cA (t:=18) (c':= .imm 1 (aS As.1)) rfl fun σ v h=>VR.im h) ?_
  refine aV (cb (L':=[dS b s ⟨aH U,.vec q4 9 (gl.1.map bS),.imm 2 (ch.1.map dJ),.imm 3 (lk.1.map bF),.vec q6 2 (Ft.1.map c8),.imm 4 (A.1.map cO),.imm 1 (rg.1.map bT),.imm 1 (fu.1.map dE),.imm 1 (aS cv.1)⟩ As.2,tB tb]++tok q6 72 2 (Ft.1.map c8).length) (List.Sublist.cons_cons _ (List.Sublist.cons_cons _ (List.sublist_append_right _ _)))) ?_
  refine cD ?_
  generalize dr s 2 As.2=z at hstep ⊢
  dsimp only [cC] at hstep
  repeat' (first|refine go ?_|refine HF a1 F8 ?_)
  refine ay rfl (fun hz=>?_) (fun hz=>?_)
  ·rw [if_pos (Hy hz)] at hstep
   repeat' (first|fail)
   refine bj 14 [(0,.v),(1,.v),(2,.v),(3,.v),(4,.v),(5,.l),(6,.v),(7,.v),(8,.v),(9,.v),(10,.v),(11,.v),(12,.v),(13,.e)] none ?_ trivial rfl (by kernel_rfl) (by kernel_rfl) (by kernel_rfl) mixed (by kernel_rfl) rfl
   repeat' (first|refine aE ?_|refine ba a1 ?_|(apply co;refine cJ a1 ?_)|refine ek a1 ?_|refine bX a1 0 rfl rfl rfl rfl (by first|trivial|rfl) ?_)
   refine fZ a1 _ rfl rfl rfl rfl (List.perm_append_comm (l₁:=[_,_])) (by simp;omega) (by simp;omega) (by first | trivial | rfl) fun q'=>?_
   refine HR [2,3,16,17,225,238] F8 ?_
   refine aV (aJ (List.perm_append_comm (l₂:=[_,_]))) ?_
   repeat' (first|refine go ?_|refine HF a1 F8 ?_|(apply aZ;refine aY ?_)|(apply aQ;first|refine HH 6 a1 0 HE ?_|refine HH 6 a1 1 HE ?_|refine HH 6 a1 2 HE ?_|refine HG a1 0 HD ?_|refine HG a1 1 HD ?_|refine HG a1 2 HD ?_|refine HG a1 3 HD ?_|fail))
   exact aF (jf+1,q') rfl ⟨by rw [Hv];rfl,trivial⟩ (by dsimp only;omega) (by dsimp only;omega) (fun _ _ h=>by dsimp only;rw [hstep];dsimp only;rw [List.map_append];exact h)
  ·rw [if_neg (Hx hz)] at hstep
   repeat' (first|refine go ?_|refine HF a1 F8 ?_|(apply aZ;refine aY ?_)|fail)
   exact aF (jf+1,q6) rfl ⟨by rw [Hv];rfl,trivial⟩ (by dsimp only;omega) (by dsimp only;omega) (fun _ _ h=>by dsimp only;rw [hstep];exact h)
 have hj8:jf=8:=by have:=Hx h;rw [hn8] at this;omega
 subst hj8
 clear hstep
 generalize e13:gY s lk.1.length 8 lk.2=ft at hftl ⊢
 repeat' (first|refine go ?_|refine HF a1 F8 ?_|(apply bh;first|refine HJ a1 0 HC ?_|refine HJ a1 1 HC ?_|refine HJ a1 2 HC ?_|refine HJ a1 3 HC ?_|refine HK a1 0 HC ?_|refine HK a1 1 HC ?_|refine HK a1 2 HC ?_|refine HM a1 1 HA (by assumption) rfl ?_|refine HM a1 0 HA (by assumption) rfl ?_|fail)|(apply aQ;first|refine HH 6 a1 0 HE ?_|refine HH 6 a1 1 HE ?_|refine HH 6 a1 2 HE ?_|refine HG a1 0 HD ?_|refine HG a1 1 HD ?_|refine HG a1 2 HD ?_|refine HG a1 3 HD ?_|fail))
 have hv:rD s=⟨U,gl.1,ch.1,lk.1,ft.1,A.1,rg.1,fu.1,cv.1⟩:=by
  unfold rD B5 c7
  rw [e1]
  try dsimp only
  rw [e2]
  try dsimp only
  rw [hkk,Int.toNat_natCast,e3]
  try dsimp only
  rw [e4,e5]
  try dsimp only
  rw [hkk2,Int.toNat_natCast,e6]
  try dsimp only
  rw [e7]
  try dsimp only
  rw [hkk3,Int.toNat_natCast,e8]
  try dsimp only
  rw [e9]
  try dsimp only
  rw [hkk4,Int.toNat_natCast,e10]
  try dsimp only
  rw [e11]
  try dsimp only
  rw [e12]
  try dsimp only
  rw [e13,hU]
  rfl
 rw [hv]
 exact bk (bE 1 (cs':=cf ⟨U,gl.1,ch.1,lk.1,ft.1,A.1,rg.1,fu.1,cv.1⟩) rfl fun σ vs h=>of.vrs (a:=[aH U,.vec q4 9 (gl.1.map bS),.imm 2 (ch.1.map dJ),.imm 3 (lk.1.map bF),.vec q6 2 (ft.1.map c8),.imm 4 (A.1.map cO),.imm 1 (rg.1.map bT),.imm 1 (fu.1.map dE),.imm 1 (aS cv.1)]) (b:=cf ⟨U,gl.1,ch.1,lk.1,ft.1,A.1,rg.1,fu.1,cv.1⟩) ⟨ea.refl _,ea.im,ea.refl _,ea.refl _,ea.im,ea.refl _,ea.refl _,ea.refl _,ea.refl _,trivial⟩ h) (iR a1 1 [] rfl rfl rfl rfl rfl (List.nil_sublist _) rfl)
end Go.Proofs.YtpbinloeemebkaaGreat
