/-
  The maker: fonts.
-/
import Derived.Test.YtpmdfoaadejmkaaGreatDoorM30
namespace Go.Proofs.YtpmdfoaadejmkaaGreatDoor
open Go.RowKit
attribute [local irreducible] AT bv AX AO Av Kt b9 dh DA cE
variable (s:List Int) (hs:s.length≤1000000)
theorem BX {a c:Nat×AB} {T:AL}:([a,c]++T).Perm (([a]++(T++[]))++[c]):=by
 rw [List.append_nil]
 exact List.Perm.cons a (List.perm_append_comm (l₁:=[c]))
theorem H0 {A T:AL} {c:Nat×AB}:((A++T)++[c]).Perm ((A++[c])++T):=by
 rw [List.append_assoc,List.append_assoc]
 exact List.Perm.append_left _ List.perm_append_comm
theorem z5:bN Tryz.prog 92 [] (.imm 1 (aT fE)):=by
 refine aL Tryz.func92 rfl Tryz.ntmps92 rfl fun B=>?_
 repeat' (first|refine IT ?_|refine IF a5 G9 ?_|refine bH a5 ?_|fail)
 exact IN IA
theorem ui:bN Tryz.prog 94 [] (.imm 1 (Co fD)):=by
 refine aL Tryz.func94 rfl Tryz.ntmps94 rfl fun B=>?_
 repeat' (first|refine IT ?_|refine IF a5 G9 ?_|refine bH a5 ?_|fail)
 exact IN IA
theorem r7 (k:Nat) (m:MS):(kp s k m).1.length=k:=by
 exact (bL.runs (fun i (l:List eh)=>l.length=i) k rfl fun i l _ h=>(bL.any _).bnd fun a _=>(bL.any _).bnd fun b _=>bL.ret (by simp [h])) m
theorem wp (k:Nat) (m:MS):(gN s k m).1.length=k:=by
 exact (bL.runs (fun i (l:List eO)=>l.length=i) k rfl fun i l _ h=>(bL.any _).bnd fun a _=>bL.ret (by simp [h])) m
theorem rN (x k:Nat) (m:MS):(k6 s x k m).1.length=k:=by
 exact (bL.runs (fun i (l:List (List eO))=>l.length=i) k rfl fun i l _ h=>(bL.any _).bnd fun a _=>bL.ret (by simp [h])) m
theorem vF (k:Nat) (m:MS):(ij s k m).1.length=k:=by
 exact (bL.runs (fun i (l:List (List fP))=>l.length=i) k rfl fun i l _ h=>(bL.any _).bnd fun a _=>(bL.any _).bnd fun b _=>bL.ret (by simp [h])) m
theorem Aq (k:Nat) (m:MS):(pu s k m).1.length=k:=by
 exact (bL.runs (fun i (l:List Int)=>l.length=i) k rfl fun i l _ h=>(bL.any _).bnd fun a _=>bL.ret (by simp [h])) m
theorem tZ (R fn k:Nat) (m:MS):(fY s R fn k m).1.length=k:=by
 exact (bL.runs (fun i (l:List bn)=>l.length=i) k rfl fun i l _ h=>(bL.any _).bnd fun a _=>bL.ret (by simp [h])) m
theorem vp (n:Int) (k:Nat) (m:MS):(gJ s n k m).1.length≤k:=by
 exact (bL.runs (fun i (l:List fS)=>l.length≤i) k (Nat.le_refl _) fun i l _ h=>(bL.any _).bnd fun a _=>bL.ite (fun _=>(bL.any _).bnd fun b _=>bL.ret (by simp;omega)) fun _=>bL.ret (by omega)) m
theorem A3 (k:Nat) (m:MS):(na s k m).1.length≤k:=by
 exact (bL.runs (fun i (l:List Int)=>l.length≤i) k (Nat.le_refl _) fun i l _ h=>(bL.any _).bnd fun a _=>bL.ret (by
  split
  ·simp;omega
  ·omega)) m
theorem vz (n k:Nat) (m:MS):(gL s n k m).1.length≤k:=by
 exact (bL.runs (fun i (l:List bV)=>l.length≤i) k (Nat.le_refl _) fun i l _ h=>(bL.any _).bnd fun a _=>(bL.any _).bnd fun b _=>bL.ret (by
  split
  ·simp;omega
  ·omega)) m
abbrev tB (tb:Nat):Nat×AB:=(tb,.box [aF 0,bI,bI,bI,bI,bI,bI,bI,bI] 32)
include hs
set_option maxHeartbeats 32000000 in
theorem Bw:bN Tryz.prog 32 [.imm 1 (aT s)] (cR (k5 s)):=by
 refine aL Tryz.func32 rfl Tryz.ntmps32 rfl fun B=>?_
 repeat' (first|refine IT ?_|refine IF a5 G9 ?_|refine uf (d:=22) fun _=>?_|refine bi a5 fun _=>?_|refine bH a5 ?_|fail)
 rename_i tb b
 refine aJ (aI (L':=[dH b s ⟨aF 0,bI,bI,bI,bI,bI,bI,bI,bI⟩ ⟨0,0⟩,tB tb]) (Jt _)) ?_
 refine aJ (bq 0 (cs':=GU s ⟨aF 0,.vec none 9 [],.vec none 2 [],bI,.vec none 2 [],.vec none 4 [],.vec none 1 [],.vec none 1 [],.vec none 1 []⟩ ⟨0,0⟩) rfl fun σ vs h=>cr (k:=3) (cr (k:=4) (cr (k:=6) (cr (k:=7) (cr (k:=8) (cr (k:=9) (cr (k:=10) h rfl fun v hv=>cL 1 hv) rfl fun v hv=>cL 1 hv) rfl fun v hv=>cL 1 hv) rfl fun v hv=>cL 4 hv) rfl fun v hv=>cL 2 hv) rfl fun v hv=>cL 2 hv) rfl fun v hv=>cL 9 hv) ?_
 refine cu ?_
 have hu:=cg s hs 0 (n:=4) (by omega)
 have hu:0≤(dr s 4 ⟨0,0⟩).1∧(dr s 4 ⟨0,0⟩).1 < 4:=hu
 generalize e1:dr s 4 ⟨0,0⟩=u at hu ⊢
 have hul:(aT lT)[u.1.toNat]?=some [aF (lT.getD u.1.toNat 0)]:=bR (l6 (by simp only [lT,List.length_cons,List.length_nil];omega) 0)
 generalize hU:lT.getD u.1.toNat 0=U at hul
 repeat' (first|refine IT ?_|refine IF a5 G9 ?_|(apply aS;first|refine aQ a5 ?_|refine aG a5 ?_)|(apply aK;first|refine IH 6 a5 0 IE ?_|refine IH 6 a5 1 IE ?_|refine IH 6 a5 2 IE ?_|refine IG a5 0 ID ?_|refine IG a5 1 ID ?_|refine IG a5 2 ID ?_|refine IG a5 3 ID ?_|fail))
 refine aJ (aI (L':=[dH b s ⟨aF U,.vec none 9 [],.vec none 2 [],bI,.vec none 2 [],.vec none 4 [],.vec none 1 [],.vec none 1 [],.vec none 1 []⟩ u.2,tB tb]) (Jt _)) ?_
 refine cu ?_
 have hk:=cg s hs u.2.a (n:=3) (by omega)
 have hk:0≤(dr s 3 u.2).1∧(dr s 3 u.2).1 < 3:=hk
 generalize e2:dr s 3 u.2=k1 at hk ⊢
 obtain ⟨k,hkk⟩:∃k:Nat,k1.1=k:=⟨k1.1.toNat,by omega⟩
 rw [hkk]
 repeat' (first|refine IT ?_|refine am ?_|refine IF a5 G9 ?_)
 refine aO [2,3,4] (α:=Nat×Option (Nat×Nat)) (fun x=>[(5,aF x.1)]) (fun x=>x.1≤k) (fun x=>[dH b s ⟨aF U,.vec none 9 [],.vec none 2 [],bI,.vec none 2 [],.vec x.2 4 ((kp s x.1 k1.2).1.map cF),.vec none 1 [],.vec none 1 [],.vec none 1 []⟩ (kp s x.1 k1.2).2,tB tb]++tok x.2 123 4 ((kp s x.1 k1.2).1.map cF).length) (fun x=>k - x.1) (0,none) rfl ⟨rfl,trivial⟩ (Nat.zero_le _) (fun _ _ h=>h) ?_
 rintro ⟨i,q⟩ hi
 dsimp only at hi ⊢
 have hal:=r7 s i k1.2
 have hstep:kp s (i+1) k1.2=(bX (dr s 3) fun a=>bX (dr s 4) fun b=>ret ((kp s i k1.2).1++[(⟨iQ tz i,0 - a * 100,0,b * 100⟩:eh)])) (kp s i k1.2).2:=rfl
 try dsimp only [Jx,Jw,Jv,Jq]
 repeat' (first|refine IT ?_|refine IF a5 G9 ?_)
 refine ar rfl (fun h=>?_) (fun h=>?_)
 ·have hil:i < k:=by have:=Iy h;omega
  generalize kp s i k1.2=A at hal hstep ⊢
  have halm:(A.1.map cF).length=A.1.length:=Jz ..
  repeat' (first|refine IT ?_|refine am ?_)
  refine bA 15 [(0,.v),(1,.v),(2,.v),(3,.v),(4,.v),(5,.v),(6,.v),(10,.v),(7,.e),(8,.v),(9,.v),(11,.e),(12,.v),(13,.v)] (some (14,.box _ 123)) ?_ ⟨_,rfl,rfl,fun _ _ _=>lZ (ez a5 rfl) rfl⟩ rfl (by kernel_rfl) (by kernel_rfl) (by kernel_rfl) bU (by kernel_rfl) rfl
  repeat' (first|refine aD ?_|refine b8 a5 ?_|(apply ek;refine fH ?_)|fail)
  refine Aw a5 ?_
  rw [u9 i (by omega)]
  repeat' (first|refine aD ?_|refine dR a5 ?_|fail)
  refine wN a5 ?_
  rw [x3 i (by omega)]
  repeat' (first|refine aD ?_|fail)
  refine EF (hs:=Nat.le_of_ble_eq_true rfl) ?_
  rw [xW]
  repeat' (first|refine aD ?_|refine b8 a5 ?_|fail)
  refine sg ?_
  have ha:=cg s hs A.2.a (n:=3) (by omega)
  have ha:0≤(dr s 3 A.2).1∧(dr s 3 A.2).1 < 3:=ha
  unfold bX at hstep
  generalize dr s 3 A.2=a at ha hstep ⊢
  dsimp only at hstep
  repeat' (first|refine aD ?_|(apply ek;refine fH ?_)|fail)
  refine sg ?_
  have hc:=cg s hs a.2.a (n:=4) (by omega)
  have hc:0≤(dr s 4 a.2).1∧(dr s 4 a.2).1 < 4:=hc
  generalize dr s 4 a.2=c at hc hstep ⊢
  try dsimp only [ret] at hstep
  repeat' (first|refine aD ?_|refine b8 a5 ?_|(apply ek;refine fH ?_)|fail)
  refine wQ [2,3,4,5,6,52] (fun _=>_) (fun _=>rfl) rfl fun _=>?_
  rename_i ab
  refine aJ (aI (H0 (A:=[_,_]))) ?_
  repeat' (first|refine IT ?_|(apply aK;first|refine IH 6 a5 0 IE ?_|refine IH 6 a5 1 IE ?_|refine IH 6 a5 2 IE ?_|refine IG a5 0 ID ?_|refine IG a5 1 ID ?_|refine IG a5 2 ID ?_|refine IG a5 3 ID ?_|fail))
  refine bA 9 [(0,.v),(1,.v),(2,.v),(3,.v),(4,.v),(5,.l),(6,.v),(7,.v),(8,.e)] none ?_ trivial rfl (by kernel_rfl) (by kernel_rfl) (by kernel_rfl) bU (by kernel_rfl) rfl
  repeat' (first|refine aD ?_|refine b8 a5 ?_|refine dR a5 ?_|refine bZ a5 0 rfl rfl rfl rfl (by first|trivial|rfl) ?_)
  refine eV a5 _ rfl rfl rfl rfl (List.perm_append_comm (l₁:=[_,_])) (by simp;omega) (by simp;omega) (by first | trivial | rfl) fun q'=>?_
  refine IQ [2,3,4,5,53,61] G9 ?_
  refine aJ (aI (List.perm_append_comm (l₂:=[_,_]))) ?_
  repeat' (first|refine IT ?_|refine IF a5 G9 ?_|(apply aV;refine aU ?_)|(apply aK;first|refine IH 6 a5 0 IE ?_|refine IH 6 a5 1 IE ?_|refine IH 6 a5 2 IE ?_|refine IG a5 0 ID ?_|refine IG a5 1 ID ?_|refine IG a5 2 ID ?_|refine IG a5 3 ID ?_|fail))
  exact aC (i+1,q') rfl ⟨by rw [Iv];rfl,trivial⟩ (by dsimp only;omega) (by dsimp only;omega) (fun _ _ h=>by dsimp only;rw [hstep];dsimp only;rw [List.map_append];exact h)
 have hil:i=k:=by have:=Ix h;omega
 subst hil
 clear hstep
 have hal:=r7 s i k1.2
 generalize e3:kp s i k1.2=A at hal ⊢
 repeat' (first|refine IT ?_|refine IF a5 G9 ?_)
 refine bP (bq 0 rfl fun σ vs h=>cr (k:=7) (c':= .imm 4 (A.1.map cF)) h rfl fun v hv=>VR.im hv) ?_
 refine bP (bO (L':=[dH b s ⟨aF U,.vec none 9 [],.vec none 2 [],bI,.vec none 2 [],.imm 4 (A.1.map cF),.vec none 1 [],.vec none 1 [],.vec none 1 []⟩ A.2,tB tb]) (List.Sublist.cons_cons _ (List.Sublist.cons_cons _ (List.nil_sublist _)))) ?_
 refine sd [2,3,4] ([dH b s ⟨aF U,.vec none 9 [],.vec none 2 [],bI,.vec none 2 [],.imm 4 (A.1.map cF),.imm 1 ((fv s i A.2).1.map bJ),.vec none 1 [],.vec none 1 []⟩ (fv s i A.2).2,tB tb]) rfl (fun Q' K=>?_) ?_
 ·refine ar rfl (fun h=>?_) (fun h=>?_)
  ·have hi0:¬i=0:=by have:=Iy h;omega
   repeat' (first|refine IT ?_|refine IF a5 G9 ?_)
   refine cu ?_
   have hn:=cg s hs A.2.a (n:=4) (by omega)
   have hn:0≤(dr s 4 A.2).1∧(dr s 4 A.2).1 < 4:=hn
   generalize e4:dr s 4 A.2=n1 at hn ⊢
   obtain ⟨n,hnn⟩:∃k:Nat,n1.1=k:=⟨n1.1.toNat,by omega⟩
   have hv:fv s i A.2=k6 s i n n1.2:=by
    unfold fv
    rw [if_neg hi0]
    unfold bX
    rw [e4]
    dsimp only
    rw [hnn,Int.toNat_natCast]
   rw [hv] at K
   rw [hnn]
   repeat' (first|refine IT ?_|refine am ?_|refine IF a5 G9 ?_)
   refine aO [2,3,4,7] (α:=Nat×Option (Nat×Nat)) (fun x=>[(8,aF x.1)]) (fun x=>x.1≤n) (fun x=>[dH b s ⟨aF U,.vec none 9 [],.vec none 2 [],bI,.vec none 2 [],.imm 4 (A.1.map cF),.vec x.2 1 ((k6 s i x.1 n1.2).1.map bJ),.vec none 1 [],.vec none 1 []⟩ (k6 s i x.1 n1.2).2,tB tb]++tok x.2 128 1 ((k6 s i x.1 n1.2).1.map bJ).length) (fun x=>n - x.1) (0,none) rfl ⟨rfl,trivial⟩ (Nat.zero_le _) (fun _ _ h=>h) ?_
   rintro ⟨j,q⟩ hj
   dsimp only at hj ⊢
   have hrl:=rN s i j n1.2
   have hstep:k6 s i (j+1) n1.2=((k6 s i j n1.2).1++[(gN s i (k6 s i j n1.2).2).1],(gN s i (k6 s i j n1.2).2).2):=rfl
   try dsimp only [Jx,Jw,Jv,Jq]
   repeat' (first|refine IT ?_|refine IF a5 G9 ?_)
   refine ar rfl (fun h=>?_) (fun h=>?_)
   ·have hjn:j < n:=by have:=Iy h;omega
    generalize k6 s i j n1.2=Rg at hrl hstep ⊢
    have hrlm:(Rg.1.map bJ).length=Rg.1.length:=Jz ..
    repeat' (first|refine IT ?_|refine am ?_|refine IF a5 G9 ?_|refine bi a5 fun _=>?_|fail)
    rename_i rb
    refine bP (bq 0 (cs':=[.vec none 3 []]) rfl fun σ vs h=>cr (k:=0) h rfl fun v hv=>cL 3 hv) ?_
    refine bP (aI (List.perm_middle (l₁:=[_,_])).symm) ?_
    refine aO [2,3,4,7,8,9] (α:=Nat×Option (Nat×Nat)) (fun x=>[(10,aF x.1)]) (fun x=>x.1≤i) (fun x=>[dH b s ⟨aF U,.vec none 9 [],.vec none 2 [],bI,.vec none 2 [],.imm 4 (A.1.map cF),.vec q 1 (Rg.1.map bJ),.vec none 1 [],.vec none 1 []⟩ (gN s x.1 Rg.2).2,tB tb,(rb,.box [.vec x.2 3 ((gN s x.1 Rg.2).1.map jX)] 128)]++(tok x.2 125 3 ((gN s x.1 Rg.2).1.map jX).length++tok q 128 1 (Rg.1.map bJ).length)) (fun x=>i - x.1) (0,none) rfl ⟨rfl,trivial⟩ (Nat.zero_le _) (fun _ _ h=>h) ?_
    rintro ⟨a,qt⟩ ha
    dsimp only at ha ⊢
    have htl:=wp s a Rg.2
    have hstt:gN s (a+1) Rg.2=(bX (dr s 5) fun z=>ret ((gN s a Rg.2).1++[jS.getD z.toNat ⟨0,0,0⟩])) (gN s a Rg.2).2:=rfl
    try dsimp only [Jx,Jw,Jv,Jq]
    repeat' (first|refine IT ?_|refine IF a5 G9 ?_)
    refine ar rfl (fun h=>?_) (fun h=>?_)
    ·have hai:a < i:=by have:=Iy h;omega
     generalize gN s a Rg.2=Tn at htl hstt ⊢
     have htlm:(Tn.1.map jX).length=Tn.1.length:=Jz ..
     repeat' (first|refine IT ?_|refine am ?_)
     refine d8 [.cell (rb,0,.vec qt 3 (Tn.1.map jX))] 13 [(0,.v),(1,.k),(2,.v),(3,.v),(4,.v),(5,.v),(6,.v),(7,.v),(8,.v),(9,.f),(10,.v),(11,.v),(12,.v)] none ?_ trivial rfl (by kernel_rfl) (by kernel_rfl) (by kernel_rfl) bU (by kernel_rfl) rfl
     repeat' (first|refine aD ?_|refine b8 a5 ?_|fail)
     refine dx a5 0 rfl rfl rfl (bF 2 rfl rfl bT) (by first | trivial | rfl) ?_
     repeat' (first|refine aD ?_|refine b8 a5 ?_|refine dR a5 ?_|fail)
     refine eu (bF 2 rfl rfl bT) ?_
     have hz:=cg s hs Tn.2.a (n:=5) (by omega)
     have hz:0≤(dr s 5 Tn.2).1∧(dr s 5 Tn.2).1 < 5:=hz
     unfold bX at hstt
     generalize dr s 5 Tn.2=z at hz hstt ⊢
     dsimp only [ret] at hstt
     have hzt:(jS.map jX)[z.1.toNat]?=some (jX (jS.getD z.1.toNat ⟨0,0,0⟩)):=by
      rw [List.getElem?_map,l6 (l:=jS) (i:=z.1.toNat) (by simp only [jS,List.length_cons,List.length_nil];omega) ⟨0,0,0⟩]
      rfl
     generalize jS.getD z.1.toNat ⟨0,0,0⟩=tn at hzt hstt
     repeat' (first|refine aD ?_|refine b8 a5 ?_|(apply cB;refine cT a5 ?_)|refine dR a5 ?_|fail)
     refine IQ [2,3,4,7,8,9,10,80,91] G9 ?_
     repeat' (first|fail)
     refine bM a5 _ rfl rfl rfl rfl (ew (A:=[_,_,_])) (by simp;omega) (by simp;omega) rfl fun q'=>?_
     refine aJ (aI (ew (A:=[_,_,_])).symm) ?_
     repeat' (first|refine IT ?_|refine IF a5 G9 ?_|(apply aV;refine aU ?_)|(apply aK;first|refine IH 6 a5 0 IE ?_|refine IH 6 a5 1 IE ?_|refine IH 6 a5 2 IE ?_|refine IG a5 0 ID ?_|refine IG a5 1 ID ?_|refine IG a5 2 ID ?_|refine IG a5 3 ID ?_|fail))
     exact aC (a+1,q') rfl ⟨by rw [Iv];rfl,trivial⟩ (by dsimp only;omega) (by dsimp only;omega) (fun _ _ h=>by dsimp only;rw [hstt];dsimp only;rw [List.map_append];exact h)
    have hai:a=i:=by have:=Ix h;omega
    subst hai
    clear hstt htl
    generalize gN s a Rg.2=Tn at hstep ⊢
    repeat' (first|refine IT ?_|fail)
    refine bP (bq 2 (cs':=[.imm 3 (Tn.1.map jX)]) rfl fun σ vs h=>cr (k:=0) h rfl fun v hv=>VR.im hv) ?_
    refine bP (bO (L':=[dH b s ⟨aF U,.vec none 9 [],.vec none 2 [],bI,.vec none 2 [],.imm 4 (A.1.map cF),.vec q 1 (Rg.1.map bJ),.vec none 1 [],.vec none 1 []⟩ Tn.2,tB tb,(rb,.box (bJ Tn.1) 128)]++tok q 128 1 (Rg.1.map bJ).length) (List.Sublist.cons_cons _ (List.Sublist.cons_cons _ (List.Sublist.cons_cons _ (List.sublist_append_right _ _))))) ?_
    refine bA 9 [(0,.v),(1,.v),(2,.v),(3,.v),(4,.v),(5,.l),(6,.l),(7,.v),(8,.e)] none ?_ trivial rfl (by kernel_rfl) (by kernel_rfl) (by kernel_rfl) bU (by kernel_rfl) rfl
    repeat' (first|refine aD ?_|refine b8 a5 ?_|refine bZ a5 0 rfl rfl rfl rfl (by first|trivial|rfl) ?_)
    refine oO a5 2 rfl rfl rfl rfl (by first | trivial | rfl) ?_
    repeat' (first|refine aD ?_|refine dR a5 ?_|fail)
    refine eV a5 _ rfl rfl rfl rfl (List.perm_append_comm (l₁:=[_,_,_])) (by simp;omega) (by simp;omega) (by first | trivial | rfl) fun q'=>?_
    refine IQ [2,3,4,7,8,94,102] G9 ?_
    refine aJ (aI (List.perm_append_comm (l₂:=[_,_,_]))) ?_
    repeat' (first|refine IT ?_|refine IF a5 G9 ?_|(apply aV;refine aU ?_)|(apply aK;first|refine IH 6 a5 0 IE ?_|refine IH 6 a5 1 IE ?_|refine IH 6 a5 2 IE ?_|refine IG a5 0 ID ?_|refine IG a5 1 ID ?_|refine IG a5 2 ID ?_|refine IG a5 3 ID ?_|fail))
    exact aC (j+1,q') rfl ⟨by rw [Iv];rfl,trivial⟩ (by dsimp only;omega) (by dsimp only;omega) (fun _ _ h=>by dsimp only;rw [hstep];dsimp only;rw [List.map_append];exact h.sublist (List.Sublist.cons_cons _ (List.Sublist.cons_cons _ (List.sublist_cons_self ..))))
   have hjn:j=n:=by have:=Ix h;omega
   subst hjn
   generalize k6 s i j n1.2=Rg at K ⊢
   repeat' (first|refine IT ?_|fail)
   refine bh (bq 0 rfl fun σ vs h=>cr (k:=8) (c':= .imm 1 (Rg.1.map bJ)) h rfl fun v hv=>VR.im hv) ?_
   refine bh (bO (L':=[dH b s ⟨aF U,.vec none 9 [],.vec none 2 [],bI,.vec none 2 [],.imm 4 (A.1.map cF),.imm 1 (Rg.1.map bJ),.vec none 1 [],.vec none 1 []⟩ Rg.2,tB tb]) (List.Sublist.cons_cons _ (List.Sublist.cons_cons _ (List.nil_sublist _)))) ?_
   exact K _ rfl
  ·have hi0:i=0:=by have:=Ix h;omega
   have hv:fv s i A.2=([],A.2):=by
    unfold fv
    rw [if_pos hi0]
    rfl
   rw [hv] at K
   repeat' (first|refine IT ?_|fail)
   refine bh (bq 0 rfl fun σ vs h=>cr (k:=8) (c':= .imm 1 []) h rfl fun v hv=>VR.im hv) ?_
   exact K _ rfl
 generalize e4:fv s i A.2=rg
 repeat' (first|refine IT ?_|refine IF a5 G9 ?_)
 refine cu ?_
 have hk2:=cg s hs rg.2.a (n:=3) (by omega)
 have hk2:0≤(dr s 3 rg.2).1∧(dr s 3 rg.2).1 < 3:=hk2
 generalize e5:dr s 3 rg.2=k2 at hk2 ⊢
 obtain ⟨k',hkk2⟩:∃k:Nat,k2.1=k:=⟨k2.1.toNat,by omega⟩
 rw [hkk2]
 repeat' (first|refine IT ?_|refine am ?_|refine IF a5 G9 ?_)
 refine aO [2,3,4] (α:=Nat×Option (Nat×Nat)) (fun x=>[(11,aF x.1)]) (fun x=>x.1≤k') (fun x=>[dH b s ⟨aF U,.vec none 9 [],.vec none 2 [],bI,.vec none 2 [],.imm 4 (A.1.map cF),.imm 1 (rg.1.map bJ),.vec x.2 1 ((ij s x.1 k2.2).1.map dv),.vec none 1 []⟩ (ij s x.1 k2.2).2,tB tb]++tok x.2 74 1 ((ij s x.1 k2.2).1.map dv).length) (fun x=>k' - x.1) (0,none) rfl ⟨rfl,trivial⟩ (Nat.zero_le _) (fun _ _ h=>h) ?_
 rintro ⟨j,q2⟩ hj
 dsimp only at hj ⊢
 have hfl:=vF s j k2.2
 have hstep:ij s (j+1) k2.2=(bX (gD 0) fun _=>bX (mn s 6 j 4) fun h=>ret ((ij s j k2.2).1++[h])) (ij s j k2.2).2:=rfl
 try dsimp only [Jx,Jw,Jv,Jq]
 repeat' (first|refine IT ?_|refine IF a5 G9 ?_)
 refine ar rfl (fun h=>?_) (fun h=>?_)
 ·have hjk:j < k':=by have:=Iy h;omega
  generalize ij s j k2.2=Fu at hfl hstep ⊢
  have hflm:(Fu.1.map dv).length=Fu.1.length:=Jz ..
  unfold bX at hstep
  repeat' (first|refine IT ?_|refine am ?_|refine IF a5 G9 ?_|(apply aK;first|refine IH 6 a5 0 IE ?_|refine IH 6 a5 1 IE ?_|refine IH 6 a5 2 IE ?_|refine IG a5 0 ID ?_|refine IG a5 1 ID ?_|refine IG a5 2 ID ?_|refine IG a5 3 ID ?_|fail))
  refine bP (aI (L':=[dH b s ⟨aF U,.vec none 9 [],.vec none 2 [],bI,.vec none 2 [],.imm 4 (A.1.map cF),.imm 1 (rg.1.map bJ),.vec q2 1 (Fu.1.map dv),.vec none 1 []⟩ (gD 0 Fu.2).2,tB tb]++tok q2 74 1 (Fu.1.map dv).length) (Jt _)) ?_
  generalize (gD 0 Fu.2).2=w at hstep ⊢
  dsimp only at hstep
  refine d8 [.cell (b,9,.vec q2 1 (Fu.1.map dv))] 11 [(0,.v),(1,.v),(2,.v),(3,.v),(4,.v),(5,.k),(6,.v),(7,.v),(8,.f),(9,.v),(10,.e)] none ?_ trivial rfl (by kernel_rfl) (by kernel_rfl) (by kernel_rfl) bU (by kernel_rfl) rfl
  repeat' (first|refine aD ?_|refine b8 a5 ?_|fail)
  refine dx a5 0 rfl rfl rfl (bF 0 rfl rfl bT) (by first | trivial | rfl) ?_
  repeat' (first|refine aD ?_|refine b8 a5 ?_|fail)
  refine rc (ry s hs _ (n:=6) (fn:=(j:Int)) (most:=4) (by omega) (by omega) (by omega)) (bF 0 rfl rfl bT) ?_
  generalize mn s 6 j 4 w=hi at hstep ⊢
  try dsimp only [ret] at hstep
  unfold j5
  repeat' (first|refine aD ?_|refine dR a5 ?_|fail)
  refine eV a5 _ rfl rfl rfl rfl (List.perm_append_comm (l₁:=[_,_])) (by simp;omega) (by simp;omega) (by first | trivial | rfl) fun q'=>?_
  refine IQ [2,3,4,11,116,126] G9 ?_
  refine aJ (aI (List.perm_append_comm (l₂:=[_,_]))) ?_
  repeat' (first|refine IT ?_|refine IF a5 G9 ?_|(apply aV;refine aU ?_)|(apply aK;first|refine IH 6 a5 0 IE ?_|refine IH 6 a5 1 IE ?_|refine IH 6 a5 2 IE ?_|refine IG a5 0 ID ?_|refine IG a5 1 ID ?_|refine IG a5 2 ID ?_|refine IG a5 3 ID ?_|fail))
  exact aC (j+1,q') rfl ⟨by rw [Iv];rfl,trivial⟩ (by dsimp only;omega) (by dsimp only;omega) (fun _ _ h=>by dsimp only;rw [hstep];dsimp only;rw [List.map_append];exact h)
 have hjk:j=k':=by have:=Ix h;omega
 subst hjk
 clear hstep
 generalize e6:ij s j k2.2=fu at hfl ⊢
 repeat' (first|refine IT ?_|refine IF a5 G9 ?_)
 refine aJ (bq 0 rfl fun σ vs h=>cr (k:=9) (c':= .imm 1 (fu.1.map dv)) h rfl fun v hv=>VR.im hv) ?_
 refine aJ (bO (L':=[dH b s ⟨aF U,.vec none 9 [],.vec none 2 [],bI,.vec none 2 [],.imm 4 (A.1.map cF),.imm 1 (rg.1.map bJ),.imm 1 (fu.1.map dv),.vec none 1 []⟩ fu.2,tB tb]) (List.Sublist.cons_cons _ (List.Sublist.cons_cons _ (List.nil_sublist _)))) ?_
 refine cu ?_
 have hk3:=cg s hs fu.2.a (n:=4) (by omega)
 have hk3:0≤(dr s 4 fu.2).1∧(dr s 4 fu.2).1 < 4:=hk3
 generalize e7:dr s 4 fu.2=k3 at hk3 ⊢
 obtain ⟨k'',hkk3⟩:∃k:Nat,k3.1=k:=⟨k3.1.toNat,by omega⟩
 rw [hkk3]
 repeat' (first|refine IT ?_|refine am ?_|refine IF a5 G9 ?_)
 refine aO [2,3,4] (α:=Nat×Option (Nat×Nat)) (fun x=>[(12,aF x.1)]) (fun x=>x.1≤k'') (fun x=>[dH b s ⟨aF U,.vec none 9 [],.vec none 2 [],bI,.vec none 2 [],.imm 4 (A.1.map cF),.imm 1 (rg.1.map bJ),.imm 1 (fu.1.map dv),.vec x.2 1 (aT (pu s x.1 k3.2).1)⟩ (pu s x.1 k3.2).2,tB tb]++tok x.2 3 1 (aT (pu s x.1 k3.2).1).length) (fun x=>k'' - x.1) (0,none) rfl ⟨rfl,trivial⟩ (Nat.zero_le _) (fun _ _ h=>h) ?_
 rintro ⟨jc,q3⟩ hjc
 dsimp only at hjc ⊢
 have hcl:=Aq s jc k3.2
 have hstep:pu s (jc+1) k3.2=(bX (dr s 500) fun z=>ret ((pu s jc k3.2).1++[z - 100])) (pu s jc k3.2).2:=rfl
 try dsimp only [Jx,Jw,Jv,Jq]
 repeat' (first|refine IT ?_|refine IF a5 G9 ?_)
 refine ar rfl (fun h=>?_) (fun h=>?_)
 ·have hjk:jc < k'':=by have:=Iy h;omega
  generalize pu s jc k3.2=C at hcl hstep ⊢
  have hclm:(aT C.1).length=C.1.length:=b6 _
  unfold bX at hstep
  repeat' (first|refine IT ?_|refine am ?_)
  refine d8 [.cell (b,10,.vec q3 1 (aT C.1))] 11 [(0,.v),(1,.v),(2,.v),(3,.v),(4,.v),(5,.k),(6,.v),(7,.f),(8,.v),(9,.v),(10,.e)] none ?_ trivial rfl (by kernel_rfl) (by kernel_rfl) (by kernel_rfl) bU (by kernel_rfl) rfl
  repeat' (first|refine aD ?_|refine b8 a5 ?_|fail)
  refine dx a5 0 rfl rfl rfl (bF 0 rfl rfl bT) (by first | trivial | rfl) ?_
  repeat' (first|refine aD ?_|refine b8 a5 ?_|fail)
  refine eu (bF 0 rfl rfl bT) ?_
  have hz:=cg s hs C.2.a (n:=500) (by omega)
  have hz:0≤(dr s 500 C.2).1∧(dr s 500 C.2).1 < 500:=hz
  generalize dr s 500 C.2=z at hz hstep ⊢
  try dsimp only [ret] at hstep
  repeat' (first|refine aD ?_|(apply ek;refine fH ?_)|refine dR a5 ?_|fail)
  refine eV a5 _ rfl rfl rfl rfl (List.perm_append_comm (l₁:=[_,_])) (by simp [b6];omega) (by simp [b6];omega) (by first | trivial | rfl) fun q'=>?_
  refine IQ [2,3,4,12,137,147] G9 ?_
  refine aJ (aI (List.perm_append_comm (l₂:=[_,_]))) ?_
  repeat' (first|refine IT ?_|refine IF a5 G9 ?_|(apply aV;refine aU ?_)|(apply aK;first|refine IH 6 a5 0 IE ?_|refine IH 6 a5 1 IE ?_|refine IH 6 a5 2 IE ?_|refine IG a5 0 ID ?_|refine IG a5 1 ID ?_|refine IG a5 2 ID ?_|refine IG a5 3 ID ?_|fail))
  exact aC (jc+1,q') rfl ⟨by rw [Iv];rfl,trivial⟩ (by dsimp only;omega) (by dsimp only;omega) (fun _ _ h=>by dsimp only;rw [hstep];dsimp only;rw [show aT (C.1++[z.1 - 100])=aT C.1++[[aF (z.1 - 100)]] from List.map_append ..];exact h)
 have hjk:jc=k'':=by have:=Ix h;omega
 subst hjk
 clear hstep
 generalize e8:pu s jc k3.2=cv at hcl ⊢
 repeat' (first|refine IT ?_|refine IF a5 G9 ?_)
 refine aJ (bq 0 rfl fun σ vs h=>cr (k:=10) (c':= .imm 1 (aT cv.1)) h rfl fun v hv=>VR.im hv) ?_
 refine aJ (bO (L':=[dH b s ⟨aF U,.vec none 9 [],.vec none 2 [],bI,.vec none 2 [],.imm 4 (A.1.map cF),.imm 1 (rg.1.map bJ),.imm 1 (fu.1.map dv),.imm 1 (aT cv.1)⟩ cv.2,tB tb]) (List.Sublist.cons_cons _ (List.Sublist.cons_cons _ (List.nil_sublist _)))) ?_
 refine cu ?_
 have hk4:=cg s hs cv.2.a (n:=9) (by omega)
 have hk4:0≤(dr s 9 cv.2).1∧(dr s 9 cv.2).1 < 9:=hk4
 generalize e9:dr s 9 cv.2=k4 at hk4 ⊢
 obtain ⟨n,hkk4⟩:∃k:Nat,2+k4.1=k:=⟨(2+k4.1).toNat,by omega⟩
 repeat' (first|refine IT ?_|refine am ?_|refine IF a5 G9 ?_|(apply aV;refine aU ?_)|fail)
 rw [hkk4]
 have hrgl:(rg.1.map bJ).length=rg.1.length:=Jz ..
 have hful:(fu.1.map dv).length=fu.1.length:=Jz ..
 have hrg3:rg.1.length≤1000:=by
  have hR:bL (fv s A.1.length) fun l=>l.length≤3:=bL.ite (fun _=>bL.ret (Nat.zero_le _)) fun _=>(cI s (by omega)).bnd fun n hn m=>by rw [rN];omega
  have:=hR A.2
  rw [hal] at this
  rw [←e4]
  omega
 refine aO [2,3,4] (α:=Nat×Option (Nat×Nat)) (fun x=>[(13,aF x.1)]) (fun x=>x.1≤n) (fun x=>[dH b s ⟨aF U,.vec x.2 9 ((fY s rg.1.length fu.1.length x.1 k4.2).1.map bG),.vec none 2 [],bI,.vec none 2 [],.imm 4 (A.1.map cF),.imm 1 (rg.1.map bJ),.imm 1 (fu.1.map dv),.imm 1 (aT cv.1)⟩ (fY s rg.1.length fu.1.length x.1 k4.2).2,tB tb]++tok x.2 76 9 ((fY s rg.1.length fu.1.length x.1 k4.2).1.map bG).length) (fun x=>n - x.1) (0,none) rfl ⟨rfl,trivial⟩ (Nat.zero_le _) (fun _ _ h=>h) ?_
 rintro ⟨jg,q4⟩ hjg
 dsimp only at hjg ⊢
 have hgl:=tZ s rg.1.length fu.1.length jg k4.2
 have hstep:fY s rg.1.length fu.1.length (jg+1) k4.2=(bX (jI s rg.1.length fu.1.length jg) fun g=>ret ((fY s rg.1.length fu.1.length jg k4.2).1++[g])) (fY s rg.1.length fu.1.length jg k4.2).2:=rfl
 try dsimp only [Jx,Jw,Jv,Jq]
 repeat' (first|refine IT ?_|refine IF a5 G9 ?_)
 refine ar rfl (fun h=>?_) (fun h=>?_)
 ·have hjn:jg < n:=by have:=Iy h;omega
  generalize fY s rg.1.length fu.1.length jg k4.2=Gs at hgl hstep ⊢
  have hglm:(Gs.1.map bG).length=Gs.1.length:=Jz ..
  unfold bX at hstep
  repeat' (first|refine IT ?_|refine am ?_|refine IF a5 G9 ?_)
  refine aX ([dH b s ⟨aF U,.vec q4 9 (Gs.1.map bG),.vec none 2 [],bI,.vec none 2 [],.imm 4 (A.1.map cF),.imm 1 (rg.1.map bJ),.imm 1 (fu.1.map dv),.imm 1 (aT cv.1)⟩ Gs.2]++(tok q4 76 9 (Gs.1.map bG).length++[])) [tB tb] (B6 s hs ⟨aF U,.vec q4 9 (Gs.1.map bG),.vec none 2 [],bI,.vec none 2 [],.imm 4 (A.1.map cF),.imm 1 (rg.1.map bJ),.imm 1 (fu.1.map dv),.imm 1 (aT cv.1)⟩ rfl rfl rfl rg.1.length fu.1.length jg hrgl hful (by omega) (by omega) (by omega) (by omega) b Gs.2) rfl rfl BX rfl fun c L1 ⟨q',hL1⟩=>?_
  subst hL1
  refine aJ (aI BX.symm) ?_
  generalize jI s rg.1.length fu.1.length jg Gs.2=g at hstep ⊢
  try dsimp only [ret] at hstep
  repeat' (first|refine IT ?_|refine IF a5 G9 ?_|(apply aV;refine aU ?_)|fail)
  exact aC (jg+1,q') rfl ⟨by rw [Iv];rfl,trivial⟩ (by dsimp only;omega) (by dsimp only;omega) (fun _ _ h=>by dsimp only;rw [hstep];dsimp only;rw [List.map_append];exact h)
 have hjn:jg=n:=by have:=Ix h;omega
 subst hjn
 clear hstep
 generalize e10:fY s rg.1.length fu.1.length jg k4.2=gl at hgl ⊢
 have hglm:(gl.1.map bG).length=gl.1.length:=Jz ..
 repeat' (first|refine IT ?_|fail)
 refine bf (hc:=⟨z5⟩) ?_
 refine aJ (bO (L':=[dH b s ⟨aF U,.vec q4 9 (gl.1.map bG),.vec none 2 [],bI,.vec none 2 [],.imm 4 (A.1.map cF),.imm 1 (rg.1.map bJ),.imm 1 (fu.1.map dv),.imm 1 (aT cv.1)⟩ gl.2,tB tb]) (List.Sublist.cons_cons _ (List.Sublist.cons_cons _ (List.nil_sublist _)))) ?_
 repeat' (first|refine IT ?_|refine am ?_|refine IF a5 G9 ?_)
 have hr16:(aT fE).length=16:=rfl
 refine aO [2,3,14] (α:=Nat×Option (Nat×Nat)) (fun x=>[(15,aF x.1)]) (fun x=>x.1≤16) (fun x=>[dH b s ⟨aF U,.vec q4 9 (gl.1.map bG),.vec x.2 2 ((gJ s gl.1.length x.1 gl.2).1.map dQ),bI,.vec none 2 [],.imm 4 (A.1.map cF),.imm 1 (rg.1.map bJ),.imm 1 (fu.1.map dv),.imm 1 (aT cv.1)⟩ (gJ s gl.1.length x.1 gl.2).2,tB tb]++tok x.2 119 2 ((gJ s gl.1.length x.1 gl.2).1.map dQ).length) (fun x=>16 - x.1) (0,none) rfl ⟨rfl,trivial⟩ (Nat.zero_le _) (fun _ _ h=>h) ?_
 rintro ⟨jr,q5⟩ hjr
 dsimp only at hjr ⊢
 have hcl2:=vp s gl.1.length jr gl.2
 have hstep:gJ s gl.1.length (jr+1) gl.2=(bX (dr s 4) fun z=>if 0 < z then bX (dr s gl.1.length) fun g=>ret ((gJ s gl.1.length jr gl.2).1++[(⟨fE.getD jr 0,g⟩:fS)]) else ret (gJ s gl.1.length jr gl.2).1) (gJ s gl.1.length jr gl.2).2:=rfl
 try dsimp only [Jx,Jw,Jv,Jq]
 repeat' (first|refine IT ?_|refine IF a5 G9 ?_)
 refine ar rfl (fun h=>?_) (fun h=>?_)
 ·have hj16:jr < 16:=by have:=Iy h;rw [hr16] at this;omega
  have hrn:(aT fE)[jr]?=some [aF (fE.getD jr 0)]:=bR (l6 hj16 0)
  generalize fE.getD jr 0=rn at hrn hstep
  generalize gJ s gl.1.length jr gl.2=Ch at hcl2 hstep ⊢
  have hchm:(Ch.1.map dQ).length=Ch.1.length:=Jz ..
  unfold bX at hstep
  repeat' (first|refine IT ?_|refine am ?_|refine IF a5 G9 ?_)
  refine cu ?_
  generalize dr s 4 Ch.2=z at hstep ⊢
  dsimp only at hstep
  repeat' (first|refine IT ?_|refine IF a5 G9 ?_)
  refine ar rfl (fun hz=>?_) (fun hz=>?_)
  ·rw [if_pos (Iy hz)] at hstep
   repeat' (first|fail)
   refine d8 [.cell (b,4,.vec q5 2 (Ch.1.map dQ))] 21 [(0,.v),(1,.v),(2,.v),(3,.v),(4,.v),(5,.k),(6,.v),(7,.v),(8,.v),(9,.v),(10,.v),(11,.v),(12,.v),(13,.v),(14,.v),(15,.l),(16,.v),(17,.f),(18,.v),(19,.v),(20,.e)] none ?_ trivial rfl (by kernel_rfl) (by kernel_rfl) (by kernel_rfl) bU (by kernel_rfl) rfl
   repeat' (first|refine aD ?_|refine b8 a5 ?_|fail)
   refine dx a5 0 rfl rfl rfl (bF 0 rfl rfl bT) (by first | trivial | rfl) ?_
   repeat' (first|refine aD ?_|refine b8 a5 ?_|(apply cB;refine cT a5 ?_)|refine bZ a5 0 rfl rfl rfl rfl (by first|trivial|rfl) ?_)
   rw [hglm]
   refine eu (bF 0 rfl rfl bT) ?_
   generalize dr s gl.1.length z.2=g at hstep ⊢
   try dsimp only [ret] at hstep
   repeat' (first|refine aD ?_|refine b8 a5 ?_|refine dR a5 ?_|fail)
   refine eV a5 _ rfl rfl rfl rfl (List.perm_append_comm (l₁:=[_,_])) (by simp;omega) (by simp;omega) (by first | trivial | rfl) fun q'=>?_
   refine IQ [2,3,14,15,172,192] G9 ?_
   refine aJ (aI (List.perm_append_comm (l₂:=[_,_]))) ?_
   repeat' (first|refine IT ?_|refine IF a5 G9 ?_|(apply aV;refine aU ?_)|(apply aK;first|refine IH 6 a5 0 IE ?_|refine IH 6 a5 1 IE ?_|refine IH 6 a5 2 IE ?_|refine IG a5 0 ID ?_|refine IG a5 1 ID ?_|refine IG a5 2 ID ?_|refine IG a5 3 ID ?_|fail))
   exact aC (jr+1,q') rfl ⟨by rw [Iv];rfl,trivial⟩ (by dsimp only;omega) (by dsimp only;omega) (fun _ _ h=>by dsimp only;rw [hstep];dsimp only;rw [List.map_append];exact h)
  ·rw [if_neg (Ix hz)] at hstep
   try dsimp only [ret] at hstep
   repeat' (first|refine IT ?_|refine IF a5 G9 ?_|(apply aV;refine aU ?_)|fail)
   exact aC (jr+1,q5) rfl ⟨by rw [Iv];rfl,trivial⟩ (by dsimp only;omega) (by dsimp only;omega) (fun _ _ h=>by dsimp only;rw [hstep];exact h)
 have hj16:jr=16:=by have:=Ix h;rw [hr16] at this;omega
 subst hj16
 clear hstep
 generalize e11:gJ s gl.1.length 16 gl.2=ch at hcl2 ⊢
 repeat' (first|refine IT ?_|refine IF a5 G9 ?_)
 refine aJ (bq 0 rfl fun σ vs h=>cr (k:=4) (c':= .imm 2 (ch.1.map dQ)) h rfl fun v hv=>VR.im hv) ?_
 refine aJ (bO (L':=[dH b s ⟨aF U,.vec q4 9 (gl.1.map bG),.imm 2 (ch.1.map dQ),bI,.vec none 2 [],.imm 4 (A.1.map cF),.imm 1 (rg.1.map bJ),.imm 1 (fu.1.map dv),.imm 1 (aT cv.1)⟩ ch.2]++[tB tb]) (List.Sublist.cons_cons _ (List.Sublist.cons_cons _ (List.nil_sublist _)))) ?_
 refine aX [dH b s ⟨aF U,.vec q4 9 (gl.1.map bG),.imm 2 (ch.1.map dQ),bI,.vec none 2 [],.imm 4 (A.1.map cF),.imm 1 (rg.1.map bJ),.imm 1 (fu.1.map dv),.imm 1 (aT cv.1)⟩ ch.2] [tB tb] (vW s hs ⟨aF U,.vec q4 9 (gl.1.map bG),.imm 2 (ch.1.map dQ),bI,.vec none 2 [],.imm 4 (A.1.map cF),.imm 1 (rg.1.map bJ),.imm 1 (fu.1.map dv),.imm 1 (aT cv.1)⟩ rfl rfl gl.1.length hglm (by omega) b ch.2) rfl rfl (Jt _) rfl fun c L1 hL1=>?_
 subst hL1
 have hlk6:=(od s (n:=gl.1.length) (by omega) ch.2).len
 generalize e12:ip s gl.1.length ch.2=lk at hlk6 ⊢
 have hlkm:(lk.1.map bC).length=lk.1.length:=Jz ..
 repeat' (first|refine IT ?_|fail)
 refine bf (hc:=⟨ui⟩) ?_
 refine aJ (aI (L':=[dH b s ⟨aF U,.vec q4 9 (gl.1.map bG),.imm 2 (ch.1.map dQ),.imm 3 (lk.1.map bC),.vec none 2 [],.imm 4 (A.1.map cF),.imm 1 (rg.1.map bJ),.imm 1 (fu.1.map dv),.imm 1 (aT cv.1)⟩ lk.2,tB tb]) (Jt _)) ?_
 repeat' (first|refine IT ?_|refine am ?_|refine IF a5 G9 ?_)
 have hn8:(Co fD).length=8:=rfl
 refine aO [2,3,16] (α:=Nat×Option (Nat×Nat)) (fun x=>[(17,aF x.1)]) (fun x=>x.1≤8) (fun x=>[dH b s ⟨aF U,.vec q4 9 (gl.1.map bG),.imm 2 (ch.1.map dQ),.imm 3 (lk.1.map bC),.vec x.2 2 ((gL s lk.1.length x.1 lk.2).1.map cf),.imm 4 (A.1.map cF),.imm 1 (rg.1.map bJ),.imm 1 (fu.1.map dv),.imm 1 (aT cv.1)⟩ (gL s lk.1.length x.1 lk.2).2,tB tb]++tok x.2 121 2 ((gL s lk.1.length x.1 lk.2).1.map cf).length) (fun x=>8 - x.1) (0,none) rfl ⟨rfl,trivial⟩ (Nat.zero_le _) (fun _ _ h=>h) ?_
 rintro ⟨jf,q6⟩ hjf
 dsimp only at hjf ⊢
 have hftl:=vz s lk.1.length jf lk.2
 have hstep:gL s lk.1.length (jf+1) lk.2=(bX (na s lk.1.length) fun r=>bX (dr s 2) fun z=>ret (if z=0 then (gL s lk.1.length jf lk.2).1++[(⟨fD.getD jf ByteArray.empty,r⟩:bV)] else (gL s lk.1.length jf lk.2).1)) (gL s lk.1.length jf lk.2).2:=rfl
 try dsimp only [Jx,Jw,Jv,Jq]
 repeat' (first|refine IT ?_|refine IF a5 G9 ?_)
 refine ar rfl (fun h=>?_) (fun h=>?_)
 ·have hj8:jf < 8:=by have:=Iy h;rw [hn8] at this;omega
  have hnm:(Co fD)[jf]?=some [uZ (fD.getD jf ByteArray.empty)]:=Cp (l6 hj8 ByteArray.empty)
  generalize fD.getD jf ByteArray.empty=nm at hnm hstep
  generalize gL s lk.1.length jf lk.2=Ft at hftl hstep ⊢
  have hftm:(Ft.1.map cf).length=Ft.1.length:=Jz ..
  unfold bX at hstep
  repeat' (first|refine IT ?_|refine am ?_|refine IF a5 G9 ?_)
  refine bP (bS (t:=18) (c':= .vec none 1 []) rfl fun σ v h=>cL 1 h) ?_
  refine aO [2,3,16,17] (α:=Nat×Option (Nat×Nat)) (fun x=>[(19,aF x.1),(18,.vec x.2 1 (aT (na s x.1 Ft.2).1))]) (fun x=>x.1≤lk.1.length) (fun x=>[dH b s ⟨aF U,.vec q4 9 (gl.1.map bG),.imm 2 (ch.1.map dQ),.imm 3 (lk.1.map bC),.vec q6 2 (Ft.1.map cf),.imm 4 (A.1.map cF),.imm 1 (rg.1.map bJ),.imm 1 (fu.1.map dv),.imm 1 (aT cv.1)⟩ (na s x.1 Ft.2).2,tB tb]++(tok x.2 3 1 (aT (na s x.1 Ft.2).1).length++tok q6 121 2 (Ft.1.map cf).length)) (fun x=>lk.1.length - x.1) (0,none) rfl ⟨rfl,rfl,trivial⟩ (Nat.zero_le _) (fun _ _ h=>h) ?_
  rintro ⟨a,q7⟩ ha
  dsimp only at ha ⊢
  have hal7:=A3 s a Ft.2
  have hst7:na s (a+1) Ft.2=(bX (dr s 3) fun z=>ret (if z=0 then (na s a Ft.2).1++[(a:Int)] else (na s a Ft.2).1)) (na s a Ft.2).2:=rfl
  try dsimp only [Jx,Jw,Jv,Jq]
  repeat' (first|refine IT ?_|refine IF a5 G9 ?_|(apply bw;first|refine II a5 0 IC ?_|refine II a5 1 IC ?_|refine II a5 2 IC ?_|refine II a5 3 IC ?_|refine IJ a5 0 IC ?_|refine IJ a5 1 IC ?_|refine IJ a5 2 IC ?_|refine IK a5 1 IA (by assumption) rfl ?_|refine IK a5 0 IA (by assumption) rfl ?_|fail)|fail)
  refine ar rfl (fun h=>?_) (fun h=>?_)
  ·have hal:a < lk.1.length:=by have:=Iy h;rw [hlkm] at this;omega
   generalize na s a Ft.2=As at hal7 hst7 ⊢
   have hasm:(aT As.1).length=As.1.length:=b6 _
   unfold bX at hst7
   repeat' (first|refine IT ?_|refine am ?_|refine IF a5 G9 ?_)
   refine cu ?_
   generalize dr s 3 As.2=z at hst7 ⊢
   dsimp only [ret] at hst7
   repeat' (first|refine IT ?_|refine IF a5 G9 ?_)
   refine ar rfl (fun hz=>?_) (fun hz=>?_)
   ·rw [if_pos (Iy hz)] at hst7
    repeat' (first|refine IT ?_|refine IF a5 G9 ?_|refine bH a5 ?_|fail)
    refine bM a5 _ rfl rfl rfl rfl (ew (A:=[_,_])) (by simp [b6];omega) (by simp [b6];omega) rfl fun q'=>?_
    refine aJ (aI (ew (A:=[_,_])).symm) ?_
    repeat' (first|refine IT ?_|refine IF a5 G9 ?_|(apply aV;refine aU ?_)|fail)
    exact aC (a+1,q') rfl ⟨by rw [Iv];rfl,by rw [hst7];dsimp only;rw [show aT (As.1++[(a:Int)])=aT As.1++[[aF (a:Int)]] from List.map_append ..];rfl,trivial⟩ (by dsimp only;omega) (by dsimp only;omega) (fun _ _ h=>by dsimp only;rw [hst7];dsimp only;rw [show aT (As.1++[(a:Int)])=aT As.1++[[aF (a:Int)]] from List.map_append ..];exact h)
   ·rw [if_neg (Ix hz)] at hst7
    repeat' (first|refine IT ?_|refine IF a5 G9 ?_|(apply aV;refine aU ?_)|fail)
    exact aC (a+1,q7) rfl ⟨by rw [Iv];rfl,by rw [hst7];rfl,trivial⟩ (by dsimp only;omega) (by dsimp only;omega) (fun _ _ h=>by dsimp only;rw [hst7];exact h)
  have hal:a=lk.1.length:=by have:=Ix h;rw [hlkm] at this;omega
  subst hal
  clear hst7
  generalize na s lk.1.length Ft.2=As at hal7 hstep ⊢
  dsimp only at hstep
  repeat' (first|refine IT ?_|refine IF a5 G9 ?_)
  refine aJ (bS (t:=18) (c':= .imm 1 (aT As.1)) rfl fun σ v h=>VR.im h) ?_
  refine aJ (bO (L':=[dH b s ⟨aF U,.vec q4 9 (gl.1.map bG),.imm 2 (ch.1.map dQ),.imm 3 (lk.1.map bC),.vec q6 2 (Ft.1.map cf),.imm 4 (A.1.map cF),.imm 1 (rg.1.map bJ),.imm 1 (fu.1.map dv),.imm 1 (aT cv.1)⟩ As.2,tB tb]++tok q6 121 2 (Ft.1.map cf).length) (List.Sublist.cons_cons _ (List.Sublist.cons_cons _ (List.sublist_append_right _ _)))) ?_
  refine cu ?_
  generalize dr s 2 As.2=z at hstep ⊢
  dsimp only [ret] at hstep
  repeat' (first|refine IT ?_|refine IF a5 G9 ?_)
  refine ar rfl (fun hz=>?_) (fun hz=>?_)
  ·rw [if_pos (Iy hz)] at hstep
   repeat' (first|fail)
   refine bA 14 [(0,.v),(1,.v),(2,.v),(3,.v),(4,.v),(5,.l),(6,.v),(7,.v),(8,.v),(9,.v),(10,.v),(11,.v),(12,.v),(13,.e)] none ?_ trivial rfl (by kernel_rfl) (by kernel_rfl) (by kernel_rfl) bU (by kernel_rfl) rfl
   repeat' (first|refine aD ?_|refine b8 a5 ?_|(apply cB;refine cT a5 ?_)|refine dR a5 ?_|refine bZ a5 0 rfl rfl rfl rfl (by first|trivial|rfl) ?_)
   refine eV a5 _ rfl rfl rfl rfl (List.perm_append_comm (l₁:=[_,_])) (by simp;omega) (by simp;omega) (by first | trivial | rfl) fun q'=>?_
   refine IQ [2,3,16,17,225,238] G9 ?_
   refine aJ (aI (List.perm_append_comm (l₂:=[_,_]))) ?_
   repeat' (first|refine IT ?_|refine IF a5 G9 ?_|(apply aV;refine aU ?_)|(apply aK;first|refine IH 6 a5 0 IE ?_|refine IH 6 a5 1 IE ?_|refine IH 6 a5 2 IE ?_|refine IG a5 0 ID ?_|refine IG a5 1 ID ?_|refine IG a5 2 ID ?_|refine IG a5 3 ID ?_|fail))
   exact aC (jf+1,q') rfl ⟨by rw [Iv];rfl,trivial⟩ (by dsimp only;omega) (by dsimp only;omega) (fun _ _ h=>by dsimp only;rw [hstep];dsimp only;rw [List.map_append];exact h)
  ·rw [if_neg (Ix hz)] at hstep
   repeat' (first|refine IT ?_|refine IF a5 G9 ?_|(apply aV;refine aU ?_)|fail)
   exact aC (jf+1,q6) rfl ⟨by rw [Iv];rfl,trivial⟩ (by dsimp only;omega) (by dsimp only;omega) (fun _ _ h=>by dsimp only;rw [hstep];exact h)
 have hj8:jf=8:=by have:=Ix h;rw [hn8] at this;omega
 subst hj8
 clear hstep
 generalize e13:gL s lk.1.length 8 lk.2=ft at hftl ⊢
 repeat' (first|refine IT ?_|refine IF a5 G9 ?_|(apply bw;first|refine II a5 0 IC ?_|refine II a5 1 IC ?_|refine II a5 2 IC ?_|refine II a5 3 IC ?_|refine IJ a5 0 IC ?_|refine IJ a5 1 IC ?_|refine IJ a5 2 IC ?_|refine IK a5 1 IA (by assumption) rfl ?_|refine IK a5 0 IA (by assumption) rfl ?_|fail)|(apply aK;first|refine IH 6 a5 0 IE ?_|refine IH 6 a5 1 IE ?_|refine IH 6 a5 2 IE ?_|refine IG a5 0 ID ?_|refine IG a5 1 ID ?_|refine IG a5 2 ID ?_|refine IG a5 3 ID ?_|fail))
 have hv:k5 s=⟨U,gl.1,ch.1,lk.1,ft.1,A.1,rg.1,fu.1,cv.1⟩:=by
  unfold k5 Bu bX
  rw [e1]
  try dsimp only
  rw [e2]
  try dsimp only
  rw [hkk,Int.toNat_natCast,e3]
  try dsimp only
  rw [e4,e5]
  try dsimp only
  rw [hkk2,Int.toNat_natCast,e6]
  try dsimp only
  rw [e7]
  try dsimp only
  rw [hkk3,Int.toNat_natCast,e8]
  try dsimp only
  rw [e9]
  try dsimp only
  rw [hkk4,Int.toNat_natCast,e10]
  try dsimp only
  rw [e11]
  try dsimp only
  rw [e12]
  try dsimp only
  rw [e13,hU]
  rfl
 rw [hv]
 exact bh (bq 1 (cs':=cw ⟨U,gl.1,ch.1,lk.1,ft.1,A.1,rg.1,fu.1,cv.1⟩) rfl fun σ vs h=>lz.vrs (a:=[aF U,.vec q4 9 (gl.1.map bG),.imm 2 (ch.1.map dQ),.imm 3 (lk.1.map bC),.vec q6 2 (ft.1.map cf),.imm 4 (A.1.map cF),.imm 1 (rg.1.map bJ),.imm 1 (fu.1.map dv),.imm 1 (aT cv.1)]) (b:=cw ⟨U,gl.1,ch.1,lk.1,ft.1,A.1,rg.1,fu.1,cv.1⟩) ⟨cx.refl _,cx.im,cx.refl _,cx.refl _,cx.im,cx.refl _,cx.refl _,cx.refl _,cx.refl _,trivial⟩ h) (iG a5 1 [] rfl rfl rfl rfl rfl (List.nil_sublist _) rfl)
end Go.Proofs.YtpmdfoaadejmkaaGreatDoor
