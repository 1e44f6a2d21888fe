/-
  The maker: fonts.
-/
import Derived.Test.YtpmdfoaadejmkaaGreatDoorM30
namespace Go.Proofs.YtpmdfoaadejmkaaGreatDoor
open Go.RowKit
attribute [local irreducible] AT bK AX AO Av Kt bh dw DA cK
variable (s:List Int) (hs:s.length≤1000000)
theorem CS {a c:Nat×AB} {T:AL}:([a,c]++T).Perm (([a]++(T++[]))++[c]):=by
 rw [List.append_nil]
 exact List.Perm.cons a (List.perm_append_comm (l₁:=[c]))
theorem I3 {A T:AL} {c:Nat×AB}:((A++T)++[c]).Perm ((A++[c])++T):=by
 rw [List.append_assoc,List.append_assoc]
 exact List.Perm.append_left _ List.perm_append_comm
theorem Ae:bJ Tryz.prog 92 [] (.imm 1 (aW fP)):=by
 refine aN Tryz.func92 rfl Tryz.ntmps92 rfl fun B=>?_
 repeat' (first|refine JU ?_|refine JG a5 JA ?_|refine bN a5 ?_|fail)
 exact JN JB
theorem v8:bJ Tryz.prog 94 [] (.imm 1 (Di fO)):=by
 refine aN Tryz.func94 rfl Tryz.ntmps94 rfl fun B=>?_
 repeat' (first|refine JU ?_|refine JG a5 JA ?_|refine bN a5 ?_|fail)
 exact JN JB
theorem rU (k:Nat) (m:MS):(kP s k m).1.length=k:=by
 exact (bV.runs (fun i (l:List ez)=>l.length=i) k rfl fun i l _ h=>(bV.any _).bnd fun a _=>(bV.any _).bnd fun b _=>bV.ret (by simp [h])) m
theorem xp (k:Nat) (m:MS):(hZ s k m).1.length=k:=by
 exact (bV.runs (fun i (l:List f0)=>l.length=i) k rfl fun i l _ h=>(bV.any _).bnd fun a _=>bV.ret (by simp [h])) m
theorem sG (x k:Nat) (m:MS):(kE s x k m).1.length=k:=by
 exact (bV.runs (fun i (l:List (List f0))=>l.length=i) k rfl fun i l _ h=>(bV.any _).bnd fun a _=>bV.ret (by simp [h])) m
theorem wz (k:Nat) (m:MS):(iF s k m).1.length=k:=by
 exact (bV.runs (fun i (l:List (List g8))=>l.length=i) k rfl fun i l _ h=>(bV.any _).bnd fun a _=>(bV.any _).bnd fun b _=>bV.ret (by simp [h])) m
theorem BD (k:Nat) (m:MS):(q8 s k m).1.length=k:=by
 exact (bV.runs (fun i (l:List Int)=>l.length=i) k rfl fun i l _ h=>(bV.any _).bnd fun a _=>bV.ret (by simp [h])) m
theorem uM (R fn k:Nat) (m:MS):(gm s R fn k m).1.length=k:=by
 exact (bV.runs (fun i (l:List bz)=>l.length=i) k rfl fun i l _ h=>(bV.any _).bnd fun a _=>bV.ret (by simp [h])) m
theorem wj (n:Int) (k:Nat) (m:MS):(hH s n k m).1.length≤k:=by
 exact (bV.runs (fun i (l:List gc)=>l.length≤i) k (Nat.le_refl _) fun i l _ h=>(bV.any _).bnd fun a _=>bV.ite (fun _=>(bV.any _).bnd fun b _=>bV.ret (by simp;omega)) fun _=>bV.ret (by omega)) m
theorem Bh (k:Nat) (m:MS):(nQ s k m).1.length≤k:=by
 exact (bV.runs (fun i (l:List Int)=>l.length≤i) k (Nat.le_refl _) fun i l _ h=>(bV.any _).bnd fun a _=>bV.ret (by
  split
  ·simp;omega
  ·omega)) m
theorem wt (n k:Nat) (m:MS):(hY s n k m).1.length≤k:=by
 exact (bV.runs (fun i (l:List c7)=>l.length≤i) k (Nat.le_refl _) fun i l _ h=>(bV.any _).bnd fun a _=>(bV.any _).bnd fun b _=>bV.ret (by
  split
  ·simp;omega
  ·omega)) m
abbrev tB (tb:Nat):Nat×AB:=(tb,.box [aF 0,bT,bT,bT,bT,bT,bT,bT,bT] 32)
include hs
set_option maxHeartbeats 32000000 in
theorem Ct:bJ Tryz.prog 32 [.imm 1 (aW s)] (bZ (kB s)):=by
 refine aN Tryz.func32 rfl Tryz.ntmps32 rfl fun B=>?_
 repeat' (first|refine JU ?_|refine JG a5 JA ?_|refine yc (d:=22) fun _=>?_|refine bj a5 fun _=>?_|refine bN a5 ?_|fail)
 rename_i tb b
 refine aJ (aR (L':=[dT b s ⟨aF 0,bT,bT,bT,bT,bT,bT,bT,bT⟩ ⟨0,0⟩,tB tb]) (Jp _)) ?_
 refine aJ (bE 0 (cs':=HW s ⟨aF 0,.vec none 9 [],.vec none 2 [],bT,.vec none 2 [],.vec none 4 [],.vec none 1 [],.vec none 1 [],.vec none 1 []⟩ ⟨0,0⟩) rfl fun σ vs h=>cA (k:=3) (cA (k:=4) (cA (k:=6) (cA (k:=7) (cA (k:=8) (cA (k:=9) (cA (k:=10) h rfl fun v hv=>cR 1 hv) rfl fun v hv=>cR 1 hv) rfl fun v hv=>cR 1 hv) rfl fun v hv=>cR 4 hv) rfl fun v hv=>cR 2 hv) rfl fun v hv=>cR 2 hv) rfl fun v hv=>cR 9 hv) ?_
 refine cD ?_
 have hu:=cq s hs 0 (n:=4) (by omega)
 have hu:0≤(dr s 4 ⟨0,0⟩).1∧(dr s 4 ⟨0,0⟩).1 < 4:=hu
 generalize e1:dr s 4 ⟨0,0⟩=u at hu ⊢
 have hul:(aW mD)[u.1.toNat]?=some [aF (mD.getD u.1.toNat 0)]:=bO (lH (by simp only [mD,List.length_cons,List.length_nil];omega) 0)
 generalize hU:mD.getD u.1.toNat 0=U at hul
 repeat' (first|refine JU ?_|refine JG a5 JA ?_|(apply aL;first|refine aK a5 ?_|refine aG a5 ?_)|(apply aM;first|refine JI 6 a5 0 JF ?_|refine JI 6 a5 1 JF ?_|refine JI 6 a5 2 JF ?_|refine JH a5 0 JE ?_|refine JH a5 1 JE ?_|refine JH a5 2 JE ?_|refine JH a5 3 JE ?_|fail))
 refine aJ (aR (L':=[dT b s ⟨aF U,.vec none 9 [],.vec none 2 [],bT,.vec none 2 [],.vec none 4 [],.vec none 1 [],.vec none 1 [],.vec none 1 []⟩ u.2,tB tb]) (Jp _)) ?_
 refine cD ?_
 have hk:=cq s hs u.2.a (n:=3) (by omega)
 have hk:0≤(dr s 3 u.2).1∧(dr s 3 u.2).1 < 3:=hk
 generalize e2:dr s 3 u.2=k1 at hk ⊢
 obtain ⟨k,hkk⟩:∃k:Nat,k1.1=k:=⟨k1.1.toNat,by omega⟩
 rw [hkk]
 repeat' (first|refine JU ?_|refine am ?_|refine JG a5 JA ?_)
 refine aP [2,3,4] (α:=Nat×Option (Nat×Nat)) (fun x=>[(5,aF x.1)]) (fun x=>x.1≤k) (fun x=>[dT b s ⟨aF U,.vec none 9 [],.vec none 2 [],bT,.vec none 2 [],.vec x.2 4 ((kP s x.1 k1.2).1.map cL),.vec none 1 [],.vec none 1 [],.vec none 1 []⟩ (kP s x.1 k1.2).2,tB tb]++tok x.2 123 4 ((kP s x.1 k1.2).1.map cL).length) (fun x=>k - x.1) (0,none) rfl ⟨rfl,trivial⟩ (Nat.zero_le _) (fun _ _ h=>h) ?_
 rintro ⟨i,q⟩ hi
 dsimp only at hi ⊢
 have hal:=rU s i k1.2
 have hstep:kP s (i+1) k1.2=(c9 (dr s 3) fun a=>c9 (dr s 4) fun b=>ret ((kP s i k1.2).1++[(⟨jh uo i,0 - a * 100,0,b * 100⟩:ez)])) (kP s i k1.2).2:=rfl
 try dsimp only [Jt,Js,Jr,Kz]
 repeat' (first|refine JU ?_|refine JG a5 JA ?_)
 refine ar rfl (fun h=>?_) (fun h=>?_)
 ·have hil:i < k:=by have:=Jz h;omega
  generalize kP s i k1.2=A at hal hstep ⊢
  have halm:(A.1.map cL).length=A.1.length:=Jv ..
  repeat' (first|refine JU ?_|refine am ?_)
  refine br 15 [(0,.v),(1,.v),(2,.v),(3,.v),(4,.v),(5,.v),(6,.v),(10,.v),(7,.e),(8,.v),(9,.v),(11,.e),(12,.v),(13,.v)] (some (14,.box _ 123)) ?_ ⟨_,rfl,rfl,fun _ _ _=>mL (eJ a5 rfl) rfl⟩ rfl (by kernel_rfl) (by kernel_rfl) (by kernel_rfl) bQ (by kernel_rfl) rfl
  repeat' (first|refine aD ?_|refine b8 a5 ?_|(apply ea;refine fA ?_)|fail)
  refine BG a5 ?_
  rw [uW i (by omega)]
  repeat' (first|refine aD ?_|refine ej a5 ?_|fail)
  refine xP a5 ?_
  rw [y6 i (by omega)]
  repeat' (first|refine aD ?_|fail)
  refine FG (hs:=Nat.le_of_ble_eq_true rfl) ?_
  rw [yY]
  repeat' (first|refine aD ?_|refine b8 a5 ?_|fail)
  refine t6 ?_
  have ha:=cq s hs A.2.a (n:=3) (by omega)
  have ha:0≤(dr s 3 A.2).1∧(dr s 3 A.2).1 < 3:=ha
  unfold c9 at hstep
  generalize dr s 3 A.2=a at ha hstep ⊢
  dsimp only at hstep
  repeat' (first|refine aD ?_|(apply ea;refine fA ?_)|fail)
  refine t6 ?_
  have hc:=cq s hs a.2.a (n:=4) (by omega)
  have hc:0≤(dr s 4 a.2).1∧(dr s 4 a.2).1 < 4:=hc
  generalize dr s 4 a.2=c at hc hstep ⊢
  try dsimp only [ret] at hstep
  repeat' (first|refine aD ?_|refine b8 a5 ?_|(apply ea;refine fA ?_)|fail)
  refine xS [2,3,4,5,6,52] (fun _=>_) (fun _=>rfl) rfl fun _=>?_
  rename_i ab
  refine aJ (aR (I3 (A:=[_,_]))) ?_
  repeat' (first|refine JU ?_|(apply aM;first|refine JI 6 a5 0 JF ?_|refine JI 6 a5 1 JF ?_|refine JI 6 a5 2 JF ?_|refine JH a5 0 JE ?_|refine JH a5 1 JE ?_|refine JH a5 2 JE ?_|refine JH a5 3 JE ?_|fail))
  refine br 9 [(0,.v),(1,.v),(2,.v),(3,.v),(4,.v),(5,.l),(6,.v),(7,.v),(8,.e)] none ?_ trivial rfl (by kernel_rfl) (by kernel_rfl) (by kernel_rfl) bQ (by kernel_rfl) rfl
  repeat' (first|refine aD ?_|refine b8 a5 ?_|refine ej a5 ?_|refine ce a5 0 rfl rfl rfl rfl (by first|trivial|rfl) ?_)
  refine f9 a5 _ rfl rfl rfl rfl (List.perm_append_comm (l₁:=[_,_])) (by simp;omega) (by simp;omega) (by first | trivial | rfl) fun q'=>?_
  refine JQ [2,3,4,5,53,61] JA ?_
  refine aJ (aR (List.perm_append_comm (l₂:=[_,_]))) ?_
  repeat' (first|refine JU ?_|refine JG a5 JA ?_|(apply aS;refine aQ ?_)|(apply aM;first|refine JI 6 a5 0 JF ?_|refine JI 6 a5 1 JF ?_|refine JI 6 a5 2 JF ?_|refine JH a5 0 JE ?_|refine JH a5 1 JE ?_|refine JH a5 2 JE ?_|refine JH a5 3 JE ?_|fail))
  exact aC (i+1,q') rfl ⟨by rw [Jw];rfl,trivial⟩ (by dsimp only;omega) (by dsimp only;omega) (fun _ _ h=>by dsimp only;rw [hstep];dsimp only;rw [List.map_append];exact h)
 have hil:i=k:=by have:=Jy h;omega
 subst hil
 clear hstep
 have hal:=rU s i k1.2
 generalize e3:kP s i k1.2=A at hal ⊢
 repeat' (first|refine JU ?_|refine JG a5 JA ?_)
 refine bS (bE 0 rfl fun σ vs h=>cA (k:=7) (c':= .imm 4 (A.1.map cL)) h rfl fun v hv=>VR.im hv) ?_
 refine bS (bA (L':=[dT b s ⟨aF U,.vec none 9 [],.vec none 2 [],bT,.vec none 2 [],.imm 4 (A.1.map cL),.vec none 1 [],.vec none 1 [],.vec none 1 []⟩ A.2,tB tb]) (List.Sublist.cons_cons _ (List.Sublist.cons_cons _ (List.nil_sublist _)))) ?_
 refine t3 [2,3,4] ([dT b s ⟨aF U,.vec none 9 [],.vec none 2 [],bT,.vec none 2 [],.imm 4 (A.1.map cL),.imm 1 ((fF s i A.2).1.map bU),.vec none 1 [],.vec none 1 []⟩ (fF s i A.2).2,tB tb]) rfl (fun Q' K=>?_) ?_
 ·refine ar rfl (fun h=>?_) (fun h=>?_)
  ·have hi0:¬i=0:=by have:=Jz h;omega
   repeat' (first|refine JU ?_|refine JG a5 JA ?_)
   refine cD ?_
   have hn:=cq s hs A.2.a (n:=4) (by omega)
   have hn:0≤(dr s 4 A.2).1∧(dr s 4 A.2).1 < 4:=hn
   generalize e4:dr s 4 A.2=n1 at hn ⊢
   obtain ⟨n,hnn⟩:∃k:Nat,n1.1=k:=⟨n1.1.toNat,by omega⟩
   have hv:fF s i A.2=kE s i n n1.2:=by
    unfold fF
    rw [if_neg hi0]
    unfold c9
    rw [e4]
    dsimp only
    rw [hnn,Int.toNat_natCast]
   rw [hv] at K
   rw [hnn]
   repeat' (first|refine JU ?_|refine am ?_|refine JG a5 JA ?_)
   refine aP [2,3,4,7] (α:=Nat×Option (Nat×Nat)) (fun x=>[(8,aF x.1)]) (fun x=>x.1≤n) (fun x=>[dT b s ⟨aF U,.vec none 9 [],.vec none 2 [],bT,.vec none 2 [],.imm 4 (A.1.map cL),.vec x.2 1 ((kE s i x.1 n1.2).1.map bU),.vec none 1 [],.vec none 1 []⟩ (kE s i x.1 n1.2).2,tB tb]++tok x.2 128 1 ((kE s i x.1 n1.2).1.map bU).length) (fun x=>n - x.1) (0,none) rfl ⟨rfl,trivial⟩ (Nat.zero_le _) (fun _ _ h=>h) ?_
   rintro ⟨j,q⟩ hj
   dsimp only at hj ⊢
   have hrl:=sG s i j n1.2
   have hstep:kE s i (j+1) n1.2=((kE s i j n1.2).1++[(hZ s i (kE s i j n1.2).2).1],(hZ s i (kE s i j n1.2).2).2):=rfl
   try dsimp only [Jt,Js,Jr,Kz]
   repeat' (first|refine JU ?_|refine JG a5 JA ?_)
   refine ar rfl (fun h=>?_) (fun h=>?_)
   ·have hjn:j < n:=by have:=Jz h;omega
    generalize kE s i j n1.2=Rg at hrl hstep ⊢
    have hrlm:(Rg.1.map bU).length=Rg.1.length:=Jv ..
    repeat' (first|refine JU ?_|refine am ?_|refine JG a5 JA ?_|refine bj a5 fun _=>?_|fail)
    rename_i rb
    refine bS (bE 0 (cs':=[.vec none 3 []]) rfl fun σ vs h=>cA (k:=0) h rfl fun v hv=>cR 3 hv) ?_
    refine bS (aR (List.perm_middle (l₁:=[_,_])).symm) ?_
    refine aP [2,3,4,7,8,9] (α:=Nat×Option (Nat×Nat)) (fun x=>[(10,aF x.1)]) (fun x=>x.1≤i) (fun x=>[dT b s ⟨aF U,.vec none 9 [],.vec none 2 [],bT,.vec none 2 [],.imm 4 (A.1.map cL),.vec q 1 (Rg.1.map bU),.vec none 1 [],.vec none 1 []⟩ (hZ s x.1 Rg.2).2,tB tb,(rb,.box [.vec x.2 3 ((hZ s x.1 Rg.2).1.map ky)] 128)]++(tok x.2 125 3 ((hZ s x.1 Rg.2).1.map ky).length++tok q 128 1 (Rg.1.map bU).length)) (fun x=>i - x.1) (0,none) rfl ⟨rfl,trivial⟩ (Nat.zero_le _) (fun _ _ h=>h) ?_
    rintro ⟨a,qt⟩ ha
    dsimp only at ha ⊢
    have htl:=xp s a Rg.2
    have hstt:hZ s (a+1) Rg.2=(c9 (dr s 5) fun z=>ret ((hZ s a Rg.2).1++[kr.getD z.toNat ⟨0,0,0⟩])) (hZ s a Rg.2).2:=rfl
    try dsimp only [Jt,Js,Jr,Kz]
    repeat' (first|refine JU ?_|refine JG a5 JA ?_)
    refine ar rfl (fun h=>?_) (fun h=>?_)
    ·have hai:a < i:=by have:=Jz h;omega
     generalize hZ s a Rg.2=Tn at htl hstt ⊢
     have htlm:(Tn.1.map ky).length=Tn.1.length:=Jv ..
     repeat' (first|refine JU ?_|refine am ?_)
     refine di [.cell (rb,0,.vec qt 3 (Tn.1.map ky))] 13 [(0,.v),(1,.k),(2,.v),(3,.v),(4,.v),(5,.v),(6,.v),(7,.v),(8,.v),(9,.f),(10,.v),(11,.v),(12,.v)] none ?_ trivial rfl (by kernel_rfl) (by kernel_rfl) (by kernel_rfl) bQ (by kernel_rfl) rfl
     repeat' (first|refine aD ?_|refine b8 a5 ?_|fail)
     refine dJ a5 0 rfl rfl rfl (bP 2 rfl rfl c5) (by first | trivial | rfl) ?_
     repeat' (first|refine aD ?_|refine b8 a5 ?_|refine ej a5 ?_|fail)
     refine eF (bP 2 rfl rfl c5) ?_
     have hz:=cq s hs Tn.2.a (n:=5) (by omega)
     have hz:0≤(dr s 5 Tn.2).1∧(dr s 5 Tn.2).1 < 5:=hz
     unfold c9 at hstt
     generalize dr s 5 Tn.2=z at hz hstt ⊢
     dsimp only [ret] at hstt
     have hzt:(kr.map ky)[z.1.toNat]?=some (ky (kr.getD z.1.toNat ⟨0,0,0⟩)):=by
      rw [List.getElem?_map,lH (l:=kr) (i:=z.1.toNat) (by simp only [kr,List.length_cons,List.length_nil];omega) ⟨0,0,0⟩]
      rfl
     generalize kr.getD z.1.toNat ⟨0,0,0⟩=tn at hzt hstt
     repeat' (first|refine aD ?_|refine b8 a5 ?_|(apply bW;refine ci a5 ?_)|refine ej a5 ?_|fail)
     refine JQ [2,3,4,7,8,9,10,80,91] JA ?_
     repeat' (first|fail)
     refine bI a5 _ rfl rfl rfl rfl (eI (A:=[_,_,_])) (by simp;omega) (by simp;omega) rfl fun q'=>?_
     refine aJ (aR (eI (A:=[_,_,_])).symm) ?_
     repeat' (first|refine JU ?_|refine JG a5 JA ?_|(apply aS;refine aQ ?_)|(apply aM;first|refine JI 6 a5 0 JF ?_|refine JI 6 a5 1 JF ?_|refine JI 6 a5 2 JF ?_|refine JH a5 0 JE ?_|refine JH a5 1 JE ?_|refine JH a5 2 JE ?_|refine JH a5 3 JE ?_|fail))
     exact aC (a+1,q') rfl ⟨by rw [Jw];rfl,trivial⟩ (by dsimp only;omega) (by dsimp only;omega) (fun _ _ h=>by dsimp only;rw [hstt];dsimp only;rw [List.map_append];exact h)
    have hai:a=i:=by have:=Jy h;omega
    subst hai
    clear hstt htl
    generalize hZ s a Rg.2=Tn at hstep ⊢
    repeat' (first|refine JU ?_|fail)
    refine bS (bE 2 (cs':=[.imm 3 (Tn.1.map ky)]) rfl fun σ vs h=>cA (k:=0) h rfl fun v hv=>VR.im hv) ?_
    refine bS (bA (L':=[dT b s ⟨aF U,.vec none 9 [],.vec none 2 [],bT,.vec none 2 [],.imm 4 (A.1.map cL),.vec q 1 (Rg.1.map bU),.vec none 1 [],.vec none 1 []⟩ Tn.2,tB tb,(rb,.box (bU Tn.1) 128)]++tok q 128 1 (Rg.1.map bU).length) (List.Sublist.cons_cons _ (List.Sublist.cons_cons _ (List.Sublist.cons_cons _ (List.sublist_append_right _ _))))) ?_
    refine br 9 [(0,.v),(1,.v),(2,.v),(3,.v),(4,.v),(5,.l),(6,.l),(7,.v),(8,.e)] none ?_ trivial rfl (by kernel_rfl) (by kernel_rfl) (by kernel_rfl) bQ (by kernel_rfl) rfl
    repeat' (first|refine aD ?_|refine b8 a5 ?_|refine ce a5 0 rfl rfl rfl rfl (by first|trivial|rfl) ?_)
    refine pv a5 2 rfl rfl rfl rfl (by first | trivial | rfl) ?_
    repeat' (first|refine aD ?_|refine ej a5 ?_|fail)
    refine f9 a5 _ rfl rfl rfl rfl (List.perm_append_comm (l₁:=[_,_,_])) (by simp;omega) (by simp;omega) (by first | trivial | rfl) fun q'=>?_
    refine JQ [2,3,4,7,8,94,102] JA ?_
    refine aJ (aR (List.perm_append_comm (l₂:=[_,_,_]))) ?_
    repeat' (first|refine JU ?_|refine JG a5 JA ?_|(apply aS;refine aQ ?_)|(apply aM;first|refine JI 6 a5 0 JF ?_|refine JI 6 a5 1 JF ?_|refine JI 6 a5 2 JF ?_|refine JH a5 0 JE ?_|refine JH a5 1 JE ?_|refine JH a5 2 JE ?_|refine JH a5 3 JE ?_|fail))
    exact aC (j+1,q') rfl ⟨by rw [Jw];rfl,trivial⟩ (by dsimp only;omega) (by dsimp only;omega) (fun _ _ h=>by dsimp only;rw [hstep];dsimp only;rw [List.map_append];exact h.sublist (List.Sublist.cons_cons _ (List.Sublist.cons_cons _ (List.sublist_cons_self ..))))
   have hjn:j=n:=by have:=Jy h;omega
   subst hjn
   generalize kE s i j n1.2=Rg at K ⊢
   repeat' (first|refine JU ?_|fail)
   refine bk (bE 0 rfl fun σ vs h=>cA (k:=8) (c':= .imm 1 (Rg.1.map bU)) h rfl fun v hv=>VR.im hv) ?_
   refine bk (bA (L':=[dT b s ⟨aF U,.vec none 9 [],.vec none 2 [],bT,.vec none 2 [],.imm 4 (A.1.map cL),.imm 1 (Rg.1.map bU),.vec none 1 [],.vec none 1 []⟩ Rg.2,tB tb]) (List.Sublist.cons_cons _ (List.Sublist.cons_cons _ (List.nil_sublist _)))) ?_
   exact K _ rfl
  ·have hi0:i=0:=by have:=Jy h;omega
   have hv:fF s i A.2=([],A.2):=by
    unfold fF
    rw [if_pos hi0]
    rfl
   rw [hv] at K
   repeat' (first|refine JU ?_|fail)
   refine bk (bE 0 rfl fun σ vs h=>cA (k:=8) (c':= .imm 1 []) h rfl fun v hv=>VR.im hv) ?_
   exact K _ rfl
 generalize e4:fF s i A.2=rg
 repeat' (first|refine JU ?_|refine JG a5 JA ?_)
 refine cD ?_
 have hk2:=cq s hs rg.2.a (n:=3) (by omega)
 have hk2:0≤(dr s 3 rg.2).1∧(dr s 3 rg.2).1 < 3:=hk2
 generalize e5:dr s 3 rg.2=k2 at hk2 ⊢
 obtain ⟨k',hkk2⟩:∃k:Nat,k2.1=k:=⟨k2.1.toNat,by omega⟩
 rw [hkk2]
 repeat' (first|refine JU ?_|refine am ?_|refine JG a5 JA ?_)
 refine aP [2,3,4] (α:=Nat×Option (Nat×Nat)) (fun x=>[(11,aF x.1)]) (fun x=>x.1≤k') (fun x=>[dT b s ⟨aF U,.vec none 9 [],.vec none 2 [],bT,.vec none 2 [],.imm 4 (A.1.map cL),.imm 1 (rg.1.map bU),.vec x.2 1 ((iF s x.1 k2.2).1.map dD),.vec none 1 []⟩ (iF s x.1 k2.2).2,tB tb]++tok x.2 74 1 ((iF s x.1 k2.2).1.map dD).length) (fun x=>k' - x.1) (0,none) rfl ⟨rfl,trivial⟩ (Nat.zero_le _) (fun _ _ h=>h) ?_
 rintro ⟨j,q2⟩ hj
 dsimp only at hj ⊢
 have hfl:=wz s j k2.2
 have hstep:iF s (j+1) k2.2=(c9 (gU 0) fun _=>c9 (n3 s 6 j 4) fun h=>ret ((iF s j k2.2).1++[h])) (iF s j k2.2).2:=rfl
 try dsimp only [Jt,Js,Jr,Kz]
 repeat' (first|refine JU ?_|refine JG a5 JA ?_)
 refine ar rfl (fun h=>?_) (fun h=>?_)
 ·have hjk:j < k':=by have:=Jz h;omega
  generalize iF s j k2.2=Fu at hfl hstep ⊢
  have hflm:(Fu.1.map dD).length=Fu.1.length:=Jv ..
  unfold c9 at hstep
  repeat' (first|refine JU ?_|refine am ?_|refine JG a5 JA ?_|(apply aM;first|refine JI 6 a5 0 JF ?_|refine JI 6 a5 1 JF ?_|refine JI 6 a5 2 JF ?_|refine JH a5 0 JE ?_|refine JH a5 1 JE ?_|refine JH a5 2 JE ?_|refine JH a5 3 JE ?_|fail))
  refine bS (aR (L':=[dT b s ⟨aF U,.vec none 9 [],.vec none 2 [],bT,.vec none 2 [],.imm 4 (A.1.map cL),.imm 1 (rg.1.map bU),.vec q2 1 (Fu.1.map dD),.vec none 1 []⟩ (gU 0 Fu.2).2,tB tb]++tok q2 74 1 (Fu.1.map dD).length) (Jp _)) ?_
  generalize (gU 0 Fu.2).2=w at hstep ⊢
  dsimp only at hstep
  refine di [.cell (b,9,.vec q2 1 (Fu.1.map dD))] 11 [(0,.v),(1,.v),(2,.v),(3,.v),(4,.v),(5,.k),(6,.v),(7,.v),(8,.f),(9,.v),(10,.e)] none ?_ trivial rfl (by kernel_rfl) (by kernel_rfl) (by kernel_rfl) bQ (by kernel_rfl) rfl
  repeat' (first|refine aD ?_|refine b8 a5 ?_|fail)
  refine dJ a5 0 rfl rfl rfl (bP 0 rfl rfl c5) (by first | trivial | rfl) ?_
  repeat' (first|refine aD ?_|refine b8 a5 ?_|fail)
  refine rZ (sj s hs _ (n:=6) (fn:=(j:Int)) (most:=4) (by omega) (by omega) (by omega)) (bP 0 rfl rfl c5) ?_
  generalize n3 s 6 j 4 w=hi at hstep ⊢
  try dsimp only [ret] at hstep
  unfold ju
  repeat' (first|refine aD ?_|refine ej a5 ?_|fail)
  refine f9 a5 _ rfl rfl rfl rfl (List.perm_append_comm (l₁:=[_,_])) (by simp;omega) (by simp;omega) (by first | trivial | rfl) fun q'=>?_
  refine JQ [2,3,4,11,116,126] JA ?_
  refine aJ (aR (List.perm_append_comm (l₂:=[_,_]))) ?_
  repeat' (first|refine JU ?_|refine JG a5 JA ?_|(apply aS;refine aQ ?_)|(apply aM;first|refine JI 6 a5 0 JF ?_|refine JI 6 a5 1 JF ?_|refine JI 6 a5 2 JF ?_|refine JH a5 0 JE ?_|refine JH a5 1 JE ?_|refine JH a5 2 JE ?_|refine JH a5 3 JE ?_|fail))
  exact aC (j+1,q') rfl ⟨by rw [Jw];rfl,trivial⟩ (by dsimp only;omega) (by dsimp only;omega) (fun _ _ h=>by dsimp only;rw [hstep];dsimp only;rw [List.map_append];exact h)
 have hjk:j=k':=by have:=Jy h;omega
 subst hjk
 clear hstep
 generalize e6:iF s j k2.2=fu at hfl ⊢
 repeat' (first|refine JU ?_|refine JG a5 JA ?_)
 refine aJ (bE 0 rfl fun σ vs h=>cA (k:=9) (c':= .imm 1 (fu.1.map dD)) h rfl fun v hv=>VR.im hv) ?_
 refine aJ (bA (L':=[dT b s ⟨aF U,.vec none 9 [],.vec none 2 [],bT,.vec none 2 [],.imm 4 (A.1.map cL),.imm 1 (rg.1.map bU),.imm 1 (fu.1.map dD),.vec none 1 []⟩ fu.2,tB tb]) (List.Sublist.cons_cons _ (List.Sublist.cons_cons _ (List.nil_sublist _)))) ?_
 refine cD ?_
 have hk3:=cq s hs fu.2.a (n:=4) (by omega)
 have hk3:0≤(dr s 4 fu.2).1∧(dr s 4 fu.2).1 < 4:=hk3
 generalize e7:dr s 4 fu.2=k3 at hk3 ⊢
 obtain ⟨k'',hkk3⟩:∃k:Nat,k3.1=k:=⟨k3.1.toNat,by omega⟩
 rw [hkk3]
 repeat' (first|refine JU ?_|refine am ?_|refine JG a5 JA ?_)
 refine aP [2,3,4] (α:=Nat×Option (Nat×Nat)) (fun x=>[(12,aF x.1)]) (fun x=>x.1≤k'') (fun x=>[dT b s ⟨aF U,.vec none 9 [],.vec none 2 [],bT,.vec none 2 [],.imm 4 (A.1.map cL),.imm 1 (rg.1.map bU),.imm 1 (fu.1.map dD),.vec x.2 1 (aW (q8 s x.1 k3.2).1)⟩ (q8 s x.1 k3.2).2,tB tb]++tok x.2 3 1 (aW (q8 s x.1 k3.2).1).length) (fun x=>k'' - x.1) (0,none) rfl ⟨rfl,trivial⟩ (Nat.zero_le _) (fun _ _ h=>h) ?_
 rintro ⟨jc,q3⟩ hjc
 dsimp only at hjc ⊢
 have hcl:=BD s jc k3.2
 have hstep:q8 s (jc+1) k3.2=(c9 (dr s 500) fun z=>ret ((q8 s jc k3.2).1++[z - 100])) (q8 s jc k3.2).2:=rfl
 try dsimp only [Jt,Js,Jr,Kz]
 repeat' (first|refine JU ?_|refine JG a5 JA ?_)
 refine ar rfl (fun h=>?_) (fun h=>?_)
 ·have hjk:jc < k'':=by have:=Jz h;omega
  generalize q8 s jc k3.2=C at hcl hstep ⊢
  have hclm:(aW C.1).length=C.1.length:=aZ _
  unfold c9 at hstep
  repeat' (first|refine JU ?_|refine am ?_)
  refine di [.cell (b,10,.vec q3 1 (aW C.1))] 11 [(0,.v),(1,.v),(2,.v),(3,.v),(4,.v),(5,.k),(6,.v),(7,.f),(8,.v),(9,.v),(10,.e)] none ?_ trivial rfl (by kernel_rfl) (by kernel_rfl) (by kernel_rfl) bQ (by kernel_rfl) rfl
  repeat' (first|refine aD ?_|refine b8 a5 ?_|fail)
  refine dJ a5 0 rfl rfl rfl (bP 0 rfl rfl c5) (by first | trivial | rfl) ?_
  repeat' (first|refine aD ?_|refine b8 a5 ?_|fail)
  refine eF (bP 0 rfl rfl c5) ?_
  have hz:=cq s hs C.2.a (n:=500) (by omega)
  have hz:0≤(dr s 500 C.2).1∧(dr s 500 C.2).1 < 500:=hz
  generalize dr s 500 C.2=z at hz hstep ⊢
  try dsimp only [ret] at hstep
  repeat' (first|refine aD ?_|(apply ea;refine fA ?_)|refine ej a5 ?_|fail)
  refine f9 a5 _ rfl rfl rfl rfl (List.perm_append_comm (l₁:=[_,_])) (by simp [aZ];omega) (by simp [aZ];omega) (by first | trivial | rfl) fun q'=>?_
  refine JQ [2,3,4,12,137,147] JA ?_
  refine aJ (aR (List.perm_append_comm (l₂:=[_,_]))) ?_
  repeat' (first|refine JU ?_|refine JG a5 JA ?_|(apply aS;refine aQ ?_)|(apply aM;first|refine JI 6 a5 0 JF ?_|refine JI 6 a5 1 JF ?_|refine JI 6 a5 2 JF ?_|refine JH a5 0 JE ?_|refine JH a5 1 JE ?_|refine JH a5 2 JE ?_|refine JH a5 3 JE ?_|fail))
  exact aC (jc+1,q') rfl ⟨by rw [Jw];rfl,trivial⟩ (by dsimp only;omega) (by dsimp only;omega) (fun _ _ h=>by dsimp only;rw [hstep];dsimp only;rw [show aW (C.1++[z.1 - 100])=aW C.1++[[aF (z.1 - 100)]] from List.map_append ..];exact h)
 have hjk:jc=k'':=by have:=Jy h;omega
 subst hjk
 clear hstep
 generalize e8:q8 s jc k3.2=cv at hcl ⊢
 repeat' (first|refine JU ?_|refine JG a5 JA ?_)
 refine aJ (bE 0 rfl fun σ vs h=>cA (k:=10) (c':= .imm 1 (aW cv.1)) h rfl fun v hv=>VR.im hv) ?_
 refine aJ (bA (L':=[dT b s ⟨aF U,.vec none 9 [],.vec none 2 [],bT,.vec none 2 [],.imm 4 (A.1.map cL),.imm 1 (rg.1.map bU),.imm 1 (fu.1.map dD),.imm 1 (aW cv.1)⟩ cv.2,tB tb]) (List.Sublist.cons_cons _ (List.Sublist.cons_cons _ (List.nil_sublist _)))) ?_
 refine cD ?_
 have hk4:=cq s hs cv.2.a (n:=9) (by omega)
 have hk4:0≤(dr s 9 cv.2).1∧(dr s 9 cv.2).1 < 9:=hk4
 generalize e9:dr s 9 cv.2=k4 at hk4 ⊢
 obtain ⟨n,hkk4⟩:∃k:Nat,2+k4.1=k:=⟨(2+k4.1).toNat,by omega⟩
 repeat' (first|refine JU ?_|refine am ?_|refine JG a5 JA ?_|(apply aS;refine aQ ?_)|fail)
 rw [hkk4]
 have hrgl:(rg.1.map bU).length=rg.1.length:=Jv ..
 have hful:(fu.1.map dD).length=fu.1.length:=Jv ..
 have hrg3:rg.1.length≤1000:=by
  have hR:bV (fF s A.1.length) fun l=>l.length≤3:=bV.ite (fun _=>bV.ret (Nat.zero_le _)) fun _=>(cO s (by omega)).bnd fun n hn m=>by rw [sG];omega
  have:=hR A.2
  rw [hal] at this
  rw [←e4]
  omega
 refine aP [2,3,4] (α:=Nat×Option (Nat×Nat)) (fun x=>[(13,aF x.1)]) (fun x=>x.1≤n) (fun x=>[dT b s ⟨aF U,.vec x.2 9 ((gm s rg.1.length fu.1.length x.1 k4.2).1.map bR),.vec none 2 [],bT,.vec none 2 [],.imm 4 (A.1.map cL),.imm 1 (rg.1.map bU),.imm 1 (fu.1.map dD),.imm 1 (aW cv.1)⟩ (gm s rg.1.length fu.1.length x.1 k4.2).2,tB tb]++tok x.2 76 9 ((gm s rg.1.length fu.1.length x.1 k4.2).1.map bR).length) (fun x=>n - x.1) (0,none) rfl ⟨rfl,trivial⟩ (Nat.zero_le _) (fun _ _ h=>h) ?_
 rintro ⟨jg,q4⟩ hjg
 dsimp only at hjg ⊢
 have hgl:=uM s rg.1.length fu.1.length jg k4.2
 have hstep:gm s rg.1.length fu.1.length (jg+1) k4.2=(c9 (ke s rg.1.length fu.1.length jg) fun g=>ret ((gm s rg.1.length fu.1.length jg k4.2).1++[g])) (gm s rg.1.length fu.1.length jg k4.2).2:=rfl
 try dsimp only [Jt,Js,Jr,Kz]
 repeat' (first|refine JU ?_|refine JG a5 JA ?_)
 refine ar rfl (fun h=>?_) (fun h=>?_)
 ·have hjn:jg < n:=by have:=Jz h;omega
  generalize gm s rg.1.length fu.1.length jg k4.2=Gs at hgl hstep ⊢
  have hglm:(Gs.1.map bR).length=Gs.1.length:=Jv ..
  unfold c9 at hstep
  repeat' (first|refine JU ?_|refine am ?_|refine JG a5 JA ?_)
  refine b9 ([dT b s ⟨aF U,.vec q4 9 (Gs.1.map bR),.vec none 2 [],bT,.vec none 2 [],.imm 4 (A.1.map cL),.imm 1 (rg.1.map bU),.imm 1 (fu.1.map dD),.imm 1 (aW cv.1)⟩ Gs.2]++(tok q4 76 9 (Gs.1.map bR).length++[])) [tB tb] (C4 s hs ⟨aF U,.vec q4 9 (Gs.1.map bR),.vec none 2 [],bT,.vec none 2 [],.imm 4 (A.1.map cL),.imm 1 (rg.1.map bU),.imm 1 (fu.1.map dD),.imm 1 (aW cv.1)⟩ rfl rfl rfl rg.1.length fu.1.length jg hrgl hful (by omega) (by omega) (by omega) (by omega) b Gs.2) rfl rfl CS rfl fun c L1 ⟨q',hL1⟩=>?_
  subst hL1
  refine aJ (aR CS.symm) ?_
  generalize ke s rg.1.length fu.1.length jg Gs.2=g at hstep ⊢
  try dsimp only [ret] at hstep
  repeat' (first|refine JU ?_|refine JG a5 JA ?_|(apply aS;refine aQ ?_)|fail)
  exact aC (jg+1,q') rfl ⟨by rw [Jw];rfl,trivial⟩ (by dsimp only;omega) (by dsimp only;omega) (fun _ _ h=>by dsimp only;rw [hstep];dsimp only;rw [List.map_append];exact h)
 have hjn:jg=n:=by have:=Jy h;omega
 subst hjn
 clear hstep
 generalize e10:gm s rg.1.length fu.1.length jg k4.2=gl at hgl ⊢
 have hglm:(gl.1.map bR).length=gl.1.length:=Jv ..
 repeat' (first|refine JU ?_|fail)
 refine bn (hc:=⟨Ae⟩) ?_
 refine aJ (bA (L':=[dT b s ⟨aF U,.vec q4 9 (gl.1.map bR),.vec none 2 [],bT,.vec none 2 [],.imm 4 (A.1.map cL),.imm 1 (rg.1.map bU),.imm 1 (fu.1.map dD),.imm 1 (aW cv.1)⟩ gl.2,tB tb]) (List.Sublist.cons_cons _ (List.Sublist.cons_cons _ (List.nil_sublist _)))) ?_
 repeat' (first|refine JU ?_|refine am ?_|refine JG a5 JA ?_)
 have hr16:(aW fP).length=16:=rfl
 refine aP [2,3,14] (α:=Nat×Option (Nat×Nat)) (fun x=>[(15,aF x.1)]) (fun x=>x.1≤16) (fun x=>[dT b s ⟨aF U,.vec q4 9 (gl.1.map bR),.vec x.2 2 ((hH s gl.1.length x.1 gl.2).1.map eh),bT,.vec none 2 [],.imm 4 (A.1.map cL),.imm 1 (rg.1.map bU),.imm 1 (fu.1.map dD),.imm 1 (aW cv.1)⟩ (hH s gl.1.length x.1 gl.2).2,tB tb]++tok x.2 119 2 ((hH s gl.1.length x.1 gl.2).1.map eh).length) (fun x=>16 - x.1) (0,none) rfl ⟨rfl,trivial⟩ (Nat.zero_le _) (fun _ _ h=>h) ?_
 rintro ⟨jr,q5⟩ hjr
 dsimp only at hjr ⊢
 have hcl2:=wj s gl.1.length jr gl.2
 have hstep:hH s gl.1.length (jr+1) gl.2=(c9 (dr s 4) fun z=>if 0 < z then c9 (dr s gl.1.length) fun g=>ret ((hH s gl.1.length jr gl.2).1++[(⟨fP.getD jr 0,g⟩:gc)]) else ret (hH s gl.1.length jr gl.2).1) (hH s gl.1.length jr gl.2).2:=rfl
 try dsimp only [Jt,Js,Jr,Kz]
 repeat' (first|refine JU ?_|refine JG a5 JA ?_)
 refine ar rfl (fun h=>?_) (fun h=>?_)
 ·have hj16:jr < 16:=by have:=Jz h;rw [hr16] at this;omega
  have hrn:(aW fP)[jr]?=some [aF (fP.getD jr 0)]:=bO (lH hj16 0)
  generalize fP.getD jr 0=rn at hrn hstep
  generalize hH s gl.1.length jr gl.2=Ch at hcl2 hstep ⊢
  have hchm:(Ch.1.map eh).length=Ch.1.length:=Jv ..
  unfold c9 at hstep
  repeat' (first|refine JU ?_|refine am ?_|refine JG a5 JA ?_)
  refine cD ?_
  generalize dr s 4 Ch.2=z at hstep ⊢
  dsimp only at hstep
  repeat' (first|refine JU ?_|refine JG a5 JA ?_)
  refine ar rfl (fun hz=>?_) (fun hz=>?_)
  ·rw [if_pos (Jz hz)] at hstep
   repeat' (first|fail)
   refine di [.cell (b,4,.vec q5 2 (Ch.1.map eh))] 21 [(0,.v),(1,.v),(2,.v),(3,.v),(4,.v),(5,.k),(6,.v),(7,.v),(8,.v),(9,.v),(10,.v),(11,.v),(12,.v),(13,.v),(14,.v),(15,.l),(16,.v),(17,.f),(18,.v),(19,.v),(20,.e)] none ?_ trivial rfl (by kernel_rfl) (by kernel_rfl) (by kernel_rfl) bQ (by kernel_rfl) rfl
   repeat' (first|refine aD ?_|refine b8 a5 ?_|fail)
   refine dJ a5 0 rfl rfl rfl (bP 0 rfl rfl c5) (by first | trivial | rfl) ?_
   repeat' (first|refine aD ?_|refine b8 a5 ?_|(apply bW;refine ci a5 ?_)|refine ce a5 0 rfl rfl rfl rfl (by first|trivial|rfl) ?_)
   rw [hglm]
   refine eF (bP 0 rfl rfl c5) ?_
   generalize dr s gl.1.length z.2=g at hstep ⊢
   try dsimp only [ret] at hstep
   repeat' (first|refine aD ?_|refine b8 a5 ?_|refine ej a5 ?_|fail)
   refine f9 a5 _ rfl rfl rfl rfl (List.perm_append_comm (l₁:=[_,_])) (by simp;omega) (by simp;omega) (by first | trivial | rfl) fun q'=>?_
   refine JQ [2,3,14,15,172,192] JA ?_
   refine aJ (aR (List.perm_append_comm (l₂:=[_,_]))) ?_
   repeat' (first|refine JU ?_|refine JG a5 JA ?_|(apply aS;refine aQ ?_)|(apply aM;first|refine JI 6 a5 0 JF ?_|refine JI 6 a5 1 JF ?_|refine JI 6 a5 2 JF ?_|refine JH a5 0 JE ?_|refine JH a5 1 JE ?_|refine JH a5 2 JE ?_|refine JH a5 3 JE ?_|fail))
   exact aC (jr+1,q') rfl ⟨by rw [Jw];rfl,trivial⟩ (by dsimp only;omega) (by dsimp only;omega) (fun _ _ h=>by dsimp only;rw [hstep];dsimp only;rw [List.map_append];exact h)
  ·rw [if_neg (Jy hz)] at hstep
   try dsimp only [ret] at hstep
   repeat' (first|refine JU ?_|refine JG a5 JA ?_|(apply aS;refine aQ ?_)|fail)
   exact aC (jr+1,q5) rfl ⟨by rw [Jw];rfl,trivial⟩ (by dsimp only;omega) (by dsimp only;omega) (fun _ _ h=>by dsimp only;rw [hstep];exact h)
 have hj16:jr=16:=by have:=Jy h;rw [hr16] at this;omega
 subst hj16
 clear hstep
 generalize e11:hH s gl.1.length 16 gl.2=ch at hcl2 ⊢
 repeat' (first|refine JU ?_|refine JG a5 JA ?_)
 refine aJ (bE 0 rfl fun σ vs h=>cA (k:=4) (c':= .imm 2 (ch.1.map eh)) h rfl fun v hv=>VR.im hv) ?_
 refine aJ (bA (L':=[dT b s ⟨aF U,.vec q4 9 (gl.1.map bR),.imm 2 (ch.1.map eh),bT,.vec none 2 [],.imm 4 (A.1.map cL),.imm 1 (rg.1.map bU),.imm 1 (fu.1.map dD),.imm 1 (aW cv.1)⟩ ch.2]++[tB tb]) (List.Sublist.cons_cons _ (List.Sublist.cons_cons _ (List.nil_sublist _)))) ?_
 refine b9 [dT b s ⟨aF U,.vec q4 9 (gl.1.map bR),.imm 2 (ch.1.map eh),bT,.vec none 2 [],.imm 4 (A.1.map cL),.imm 1 (rg.1.map bU),.imm 1 (fu.1.map dD),.imm 1 (aW cv.1)⟩ ch.2] [tB tb] (wR s hs ⟨aF U,.vec q4 9 (gl.1.map bR),.imm 2 (ch.1.map eh),bT,.vec none 2 [],.imm 4 (A.1.map cL),.imm 1 (rg.1.map bU),.imm 1 (fu.1.map dD),.imm 1 (aW cv.1)⟩ rfl rfl gl.1.length hglm (by omega) b ch.2) rfl rfl (Jp _) rfl fun c L1 hL1=>?_
 subst hL1
 have hlk6:=(oT s (n:=gl.1.length) (by omega) ch.2).len
 generalize e12:iH s gl.1.length ch.2=lk at hlk6 ⊢
 have hlkm:(lk.1.map bi).length=lk.1.length:=Jv ..
 repeat' (first|refine JU ?_|fail)
 refine bn (hc:=⟨v8⟩) ?_
 refine aJ (aR (L':=[dT b s ⟨aF U,.vec q4 9 (gl.1.map bR),.imm 2 (ch.1.map eh),.imm 3 (lk.1.map bi),.vec none 2 [],.imm 4 (A.1.map cL),.imm 1 (rg.1.map bU),.imm 1 (fu.1.map dD),.imm 1 (aW cv.1)⟩ lk.2,tB tb]) (Jp _)) ?_
 repeat' (first|refine JU ?_|refine am ?_|refine JG a5 JA ?_)
 have hn8:(Di fO).length=8:=rfl
 refine aP [2,3,16] (α:=Nat×Option (Nat×Nat)) (fun x=>[(17,aF x.1)]) (fun x=>x.1≤8) (fun x=>[dT b s ⟨aF U,.vec q4 9 (gl.1.map bR),.imm 2 (ch.1.map eh),.imm 3 (lk.1.map bi),.vec x.2 2 ((hY s lk.1.length x.1 lk.2).1.map co),.imm 4 (A.1.map cL),.imm 1 (rg.1.map bU),.imm 1 (fu.1.map dD),.imm 1 (aW cv.1)⟩ (hY s lk.1.length x.1 lk.2).2,tB tb]++tok x.2 121 2 ((hY s lk.1.length x.1 lk.2).1.map co).length) (fun x=>8 - x.1) (0,none) rfl ⟨rfl,trivial⟩ (Nat.zero_le _) (fun _ _ h=>h) ?_
 rintro ⟨jf,q6⟩ hjf
 dsimp only at hjf ⊢
 have hftl:=wt s lk.1.length jf lk.2
 have hstep:hY s lk.1.length (jf+1) lk.2=(c9 (nQ s lk.1.length) fun r=>c9 (dr s 2) fun z=>ret (if z=0 then (hY s lk.1.length jf lk.2).1++[(⟨fO.getD jf ByteArray.empty,r⟩:c7)] else (hY s lk.1.length jf lk.2).1)) (hY s lk.1.length jf lk.2).2:=rfl
 try dsimp only [Jt,Js,Jr,Kz]
 repeat' (first|refine JU ?_|refine JG a5 JA ?_)
 refine ar rfl (fun h=>?_) (fun h=>?_)
 ·have hj8:jf < 8:=by have:=Jz h;rw [hn8] at this;omega
  have hnm:(Di fO)[jf]?=some [vQ (fO.getD jf ByteArray.empty)]:=Dj (lH hj8 ByteArray.empty)
  generalize fO.getD jf ByteArray.empty=nm at hnm hstep
  generalize hY s lk.1.length jf lk.2=Ft at hftl hstep ⊢
  have hftm:(Ft.1.map co).length=Ft.1.length:=Jv ..
  unfold c9 at hstep
  repeat' (first|refine JU ?_|refine am ?_|refine JG a5 JA ?_)
  refine bS (bL (t:=18) (c':= .vec none 1 []) rfl fun σ v h=>cR 1 h) ?_
  refine aP [2,3,16,17] (α:=Nat×Option (Nat×Nat)) (fun x=>[(19,aF x.1),(18,.vec x.2 1 (aW (nQ s x.1 Ft.2).1))]) (fun x=>x.1≤lk.1.length) (fun x=>[dT b s ⟨aF U,.vec q4 9 (gl.1.map bR),.imm 2 (ch.1.map eh),.imm 3 (lk.1.map bi),.vec q6 2 (Ft.1.map co),.imm 4 (A.1.map cL),.imm 1 (rg.1.map bU),.imm 1 (fu.1.map dD),.imm 1 (aW cv.1)⟩ (nQ s x.1 Ft.2).2,tB tb]++(tok x.2 3 1 (aW (nQ s x.1 Ft.2).1).length++tok q6 121 2 (Ft.1.map co).length)) (fun x=>lk.1.length - x.1) (0,none) rfl ⟨rfl,rfl,trivial⟩ (Nat.zero_le _) (fun _ _ h=>h) ?_
  rintro ⟨a,q7⟩ ha
  dsimp only at ha ⊢
  have hal7:=Bh s a Ft.2
  have hst7:nQ s (a+1) Ft.2=(c9 (dr s 3) fun z=>ret (if z=0 then (nQ s a Ft.2).1++[(a:Int)] else (nQ s a Ft.2).1)) (nQ s a Ft.2).2:=rfl
  try dsimp only [Jt,Js,Jr,Kz]
  repeat' (first|refine JU ?_|refine JG a5 JA ?_|(apply bF;first|refine JJ a5 0 JD ?_|refine JJ a5 1 JD ?_|refine JJ a5 2 JD ?_|refine JJ a5 3 JD ?_|refine JK a5 0 JD ?_|refine JK a5 1 JD ?_|refine JK a5 2 JD ?_|refine JL a5 1 JB (by assumption) rfl ?_|refine JL a5 0 JB (by assumption) rfl ?_|fail)|fail)
  refine ar rfl (fun h=>?_) (fun h=>?_)
  ·have hal:a < lk.1.length:=by have:=Jz h;rw [hlkm] at this;omega
   generalize nQ s a Ft.2=As at hal7 hst7 ⊢
   have hasm:(aW As.1).length=As.1.length:=aZ _
   unfold c9 at hst7
   repeat' (first|refine JU ?_|refine am ?_|refine JG a5 JA ?_)
   refine cD ?_
   generalize dr s 3 As.2=z at hst7 ⊢
   dsimp only [ret] at hst7
   repeat' (first|refine JU ?_|refine JG a5 JA ?_)
   refine ar rfl (fun hz=>?_) (fun hz=>?_)
   ·rw [if_pos (Jz hz)] at hst7
    repeat' (first|refine JU ?_|refine JG a5 JA ?_|refine bN a5 ?_|fail)
    refine bI a5 _ rfl rfl rfl rfl (eI (A:=[_,_])) (by simp [aZ];omega) (by simp [aZ];omega) rfl fun q'=>?_
    refine aJ (aR (eI (A:=[_,_])).symm) ?_
    repeat' (first|refine JU ?_|refine JG a5 JA ?_|(apply aS;refine aQ ?_)|fail)
    exact aC (a+1,q') rfl ⟨by rw [Jw];rfl,by rw [hst7];dsimp only;rw [show aW (As.1++[(a:Int)])=aW As.1++[[aF (a:Int)]] from List.map_append ..];rfl,trivial⟩ (by dsimp only;omega) (by dsimp only;omega) (fun _ _ h=>by dsimp only;rw [hst7];dsimp only;rw [show aW (As.1++[(a:Int)])=aW As.1++[[aF (a:Int)]] from List.map_append ..];exact h)
   ·rw [if_neg (Jy hz)] at hst7
    repeat' (first|refine JU ?_|refine JG a5 JA ?_|(apply aS;refine aQ ?_)|fail)
    exact aC (a+1,q7) rfl ⟨by rw [Jw];rfl,by rw [hst7];rfl,trivial⟩ (by dsimp only;omega) (by dsimp only;omega) (fun _ _ h=>by dsimp only;rw [hst7];exact h)
  have hal:a=lk.1.length:=by have:=Jy h;rw [hlkm] at this;omega
  subst hal
  clear hst7
  generalize nQ s lk.1.length Ft.2=As at hal7 hstep ⊢
  dsimp only at hstep
  repeat' (first|refine JU ?_|refine JG a5 JA ?_)
  refine aJ (bL (t:=18) (c':= .imm 1 (aW As.1)) rfl fun σ v h=>VR.im h) ?_
  refine aJ (bA (L':=[dT b s ⟨aF U,.vec q4 9 (gl.1.map bR),.imm 2 (ch.1.map eh),.imm 3 (lk.1.map bi),.vec q6 2 (Ft.1.map co),.imm 4 (A.1.map cL),.imm 1 (rg.1.map bU),.imm 1 (fu.1.map dD),.imm 1 (aW cv.1)⟩ As.2,tB tb]++tok q6 121 2 (Ft.1.map co).length) (List.Sublist.cons_cons _ (List.Sublist.cons_cons _ (List.sublist_append_right _ _)))) ?_
  refine cD ?_
  generalize dr s 2 As.2=z at hstep ⊢
  dsimp only [ret] at hstep
  repeat' (first|refine JU ?_|refine JG a5 JA ?_)
  refine ar rfl (fun hz=>?_) (fun hz=>?_)
  ·rw [if_pos (Jz hz)] at hstep
   repeat' (first|fail)
   refine br 14 [(0,.v),(1,.v),(2,.v),(3,.v),(4,.v),(5,.l),(6,.v),(7,.v),(8,.v),(9,.v),(10,.v),(11,.v),(12,.v),(13,.e)] none ?_ trivial rfl (by kernel_rfl) (by kernel_rfl) (by kernel_rfl) bQ (by kernel_rfl) rfl
   repeat' (first|refine aD ?_|refine b8 a5 ?_|(apply bW;refine ci a5 ?_)|refine ej a5 ?_|refine ce a5 0 rfl rfl rfl rfl (by first|trivial|rfl) ?_)
   refine f9 a5 _ rfl rfl rfl rfl (List.perm_append_comm (l₁:=[_,_])) (by simp;omega) (by simp;omega) (by first | trivial | rfl) fun q'=>?_
   refine JQ [2,3,16,17,225,238] JA ?_
   refine aJ (aR (List.perm_append_comm (l₂:=[_,_]))) ?_
   repeat' (first|refine JU ?_|refine JG a5 JA ?_|(apply aS;refine aQ ?_)|(apply aM;first|refine JI 6 a5 0 JF ?_|refine JI 6 a5 1 JF ?_|refine JI 6 a5 2 JF ?_|refine JH a5 0 JE ?_|refine JH a5 1 JE ?_|refine JH a5 2 JE ?_|refine JH a5 3 JE ?_|fail))
   exact aC (jf+1,q') rfl ⟨by rw [Jw];rfl,trivial⟩ (by dsimp only;omega) (by dsimp only;omega) (fun _ _ h=>by dsimp only;rw [hstep];dsimp only;rw [List.map_append];exact h)
  ·rw [if_neg (Jy hz)] at hstep
   repeat' (first|refine JU ?_|refine JG a5 JA ?_|(apply aS;refine aQ ?_)|fail)
   exact aC (jf+1,q6) rfl ⟨by rw [Jw];rfl,trivial⟩ (by dsimp only;omega) (by dsimp only;omega) (fun _ _ h=>by dsimp only;rw [hstep];exact h)
 have hj8:jf=8:=by have:=Jy h;rw [hn8] at this;omega
 subst hj8
 clear hstep
 generalize e13:hY s lk.1.length 8 lk.2=ft at hftl ⊢
 repeat' (first|refine JU ?_|refine JG a5 JA ?_|(apply bF;first|refine JJ a5 0 JD ?_|refine JJ a5 1 JD ?_|refine JJ a5 2 JD ?_|refine JJ a5 3 JD ?_|refine JK a5 0 JD ?_|refine JK a5 1 JD ?_|refine JK a5 2 JD ?_|refine JL a5 1 JB (by assumption) rfl ?_|refine JL a5 0 JB (by assumption) rfl ?_|fail)|(apply aM;first|refine JI 6 a5 0 JF ?_|refine JI 6 a5 1 JF ?_|refine JI 6 a5 2 JF ?_|refine JH a5 0 JE ?_|refine JH a5 1 JE ?_|refine JH a5 2 JE ?_|refine JH a5 3 JE ?_|fail))
 have hv:kB s=⟨U,gl.1,ch.1,lk.1,ft.1,A.1,rg.1,fu.1,cv.1⟩:=by
  unfold kB Cr c9
  rw [e1]
  try dsimp only
  rw [e2]
  try dsimp only
  rw [hkk,Int.toNat_natCast,e3]
  try dsimp only
  rw [e4,e5]
  try dsimp only
  rw [hkk2,Int.toNat_natCast,e6]
  try dsimp only
  rw [e7]
  try dsimp only
  rw [hkk3,Int.toNat_natCast,e8]
  try dsimp only
  rw [e9]
  try dsimp only
  rw [hkk4,Int.toNat_natCast,e10]
  try dsimp only
  rw [e11]
  try dsimp only
  rw [e12]
  try dsimp only
  rw [e13,hU]
  rfl
 rw [hv]
 exact bk (bE 1 (cs':=cE ⟨U,gl.1,ch.1,lk.1,ft.1,A.1,rg.1,fu.1,cv.1⟩) rfl fun σ vs h=>mF.vrs (a:=[aF U,.vec q4 9 (gl.1.map bR),.imm 2 (ch.1.map eh),.imm 3 (lk.1.map bi),.vec q6 2 (ft.1.map co),.imm 4 (A.1.map cL),.imm 1 (rg.1.map bU),.imm 1 (fu.1.map dD),.imm 1 (aW cv.1)]) (b:=cE ⟨U,gl.1,ch.1,lk.1,ft.1,A.1,rg.1,fu.1,cv.1⟩) ⟨cY.refl _,cY.im,cY.refl _,cY.refl _,cY.im,cY.refl _,cY.refl _,cY.refl _,cY.refl _,trivial⟩ h) (iY a5 1 [] rfl rfl rfl rfl rfl (List.nil_sublist _) rfl)
end Go.Proofs.YtpmdfoaadejmkaaGreatDoor
