/-
  The maker: fonts.
-/
import Derived.Test.YtpmdfoaadejmkaaGreatDoorM30
namespace Go.Proofs.YtpmdfoaadejmkaaGreatDoor
open Go.RowKit
attribute [local irreducible] AT bI AX AO Av Kt bi dx DA cK
variable (s:List Int) (hs:s.length≤1000000)
theorem CO {a c:Nat×AB} {T:AL}:([a,c]++T).Perm (([a]++(T++[]))++[c]):=by
 rw [List.append_nil]
 exact List.Perm.cons a (List.perm_append_comm (l₁:=[c]))
theorem HY {A T:AL} {c:Nat×AB}:((A++T)++[c]).Perm ((A++[c])++T):=by
 rw [List.append_assoc,List.append_assoc]
 exact List.Perm.append_left _ List.perm_append_comm
theorem A8:bJ Tryz.prog 92 [] (.imm 1 (aX fO)):=by
 refine aM Tryz.func92 rfl Tryz.ntmps92 rfl fun B=>?_
 repeat' (first|refine Ji ?_|refine JF a5 H6 ?_|refine bM a5 ?_|fail)
 exact JM JA
theorem va:bJ Tryz.prog 94 [] (.imm 1 (Dc fN)):=by
 refine aM Tryz.func94 rfl Tryz.ntmps94 rfl fun B=>?_
 repeat' (first|refine Ji ?_|refine JF a5 H6 ?_|refine bM a5 ?_|fail)
 exact JM JA
theorem rW (k:Nat) (m:MS):(kQ s k m).1.length=k:=by
 exact (bU.runs (fun i (l:List ez)=>l.length=i) k rfl fun i l _ h=>(bU.any _).bnd fun a _=>(bU.any _).bnd fun b _=>bU.ret (by simp [h])) m
theorem xl (k:Nat) (m:MS):(i6 s k m).1.length=k:=by
 exact (bU.runs (fun i (l:List eZ)=>l.length=i) k rfl fun i l _ h=>(bU.any _).bnd fun a _=>bU.ret (by simp [h])) m
theorem sI (x k:Nat) (m:MS):(kF s x k m).1.length=k:=by
 exact (bU.runs (fun i (l:List (List eZ))=>l.length=i) k rfl fun i l _ h=>(bU.any _).bnd fun a _=>bU.ret (by simp [h])) m
theorem wz (k:Nat) (m:MS):(iI s k m).1.length=k:=by
 exact (bU.runs (fun i (l:List (List g7))=>l.length=i) k rfl fun i l _ h=>(bU.any _).bnd fun a _=>(bU.any _).bnd fun b _=>bU.ret (by simp [h])) m
theorem By (k:Nat) (m:MS):(qb s k m).1.length=k:=by
 exact (bU.runs (fun i (l:List Int)=>l.length=i) k rfl fun i l _ h=>(bU.any _).bnd fun a _=>bU.ret (by simp [h])) m
theorem uO (R fn k:Nat) (m:MS):(gk s R fn k m).1.length=k:=by
 exact (bU.runs (fun i (l:List bv)=>l.length=i) k rfl fun i l _ h=>(bU.any _).bnd fun a _=>bU.ret (by simp [h])) m
theorem wj (n:Int) (k:Nat) (m:MS):(hQ s n k m).1.length≤k:=by
 exact (bU.runs (fun i (l:List ga)=>l.length≤i) k (Nat.le_refl _) fun i l _ h=>(bU.any _).bnd fun a _=>bU.ite (fun _=>(bU.any _).bnd fun b _=>bU.ret (by simp;omega)) fun _=>bU.ret (by omega)) m
theorem Bb (k:Nat) (m:MS):(nT s k m).1.length≤k:=by
 exact (bU.runs (fun i (l:List Int)=>l.length≤i) k (Nat.le_refl _) fun i l _ h=>(bU.any _).bnd fun a _=>bU.ret (by
  split
  ·simp;omega
  ·omega)) m
theorem wt (n k:Nat) (m:MS):(hZ s n k m).1.length≤k:=by
 exact (bU.runs (fun i (l:List c6)=>l.length≤i) k (Nat.le_refl _) fun i l _ h=>(bU.any _).bnd fun a _=>(bU.any _).bnd fun b _=>bU.ret (by
  split
  ·simp;omega
  ·omega)) m
abbrev tB (tb:Nat):Nat×AB:=(tb,.box [aF 0,bS,bS,bS,bS,bS,bS,bS,bS] 32)
include hs
set_option maxHeartbeats 32000000 in
theorem Co:bJ Tryz.prog 32 [.imm 1 (aX s)] (bZ (kD s)):=by
 refine aM Tryz.func32 rfl Tryz.ntmps32 rfl fun B=>?_
 repeat' (first|refine Ji ?_|refine JF a5 H6 ?_|refine y8 (d:=22) fun _=>?_|refine bj a5 fun _=>?_|refine bM a5 ?_|fail)
 rename_i tb b
 refine aI (aQ (L':=[dR b s ⟨aF 0,bS,bS,bS,bS,bS,bS,bS,bS⟩ ⟨0,0⟩,tB tb]) (Jo _)) ?_
 refine aI (bD 0 (cs':=HR s ⟨aF 0,.vec none 9 [],.vec none 2 [],bS,.vec none 2 [],.vec none 4 [],.vec none 1 [],.vec none 1 [],.vec none 1 []⟩ ⟨0,0⟩) rfl fun σ vs h=>cA (k:=3) (cA (k:=4) (cA (k:=6) (cA (k:=7) (cA (k:=8) (cA (k:=9) (cA (k:=10) h rfl fun v hv=>cS 1 hv) rfl fun v hv=>cS 1 hv) rfl fun v hv=>cS 1 hv) rfl fun v hv=>cS 4 hv) rfl fun v hv=>cS 2 hv) rfl fun v hv=>cS 2 hv) rfl fun v hv=>cS 9 hv) ?_
 refine cC ?_
 have hu:=co s hs 0 (n:=4) (by omega)
 have hu:0≤(dr s 4 ⟨0,0⟩).1∧(dr s 4 ⟨0,0⟩).1 < 4:=hu
 generalize e1:dr s 4 ⟨0,0⟩=u at hu ⊢
 have hul:(aX mF)[u.1.toNat]?=some [aF (mF.getD u.1.toNat 0)]:=bP (lJ (by simp only [mF,List.length_cons,List.length_nil];omega) 0)
 generalize hU:mF.getD u.1.toNat 0=U at hul
 repeat' (first|refine Ji ?_|refine JF a5 H6 ?_|(apply aO;first|refine aN a5 ?_|refine aG a5 ?_)|(apply aK;first|refine JH 6 a5 0 JE ?_|refine JH 6 a5 1 JE ?_|refine JH 6 a5 2 JE ?_|refine JG a5 0 JD ?_|refine JG a5 1 JD ?_|refine JG a5 2 JD ?_|refine JG a5 3 JD ?_|fail))
 refine aI (aQ (L':=[dR b s ⟨aF U,.vec none 9 [],.vec none 2 [],bS,.vec none 2 [],.vec none 4 [],.vec none 1 [],.vec none 1 [],.vec none 1 []⟩ u.2,tB tb]) (Jo _)) ?_
 refine cC ?_
 have hk:=co s hs u.2.a (n:=3) (by omega)
 have hk:0≤(dr s 3 u.2).1∧(dr s 3 u.2).1 < 3:=hk
 generalize e2:dr s 3 u.2=k1 at hk ⊢
 obtain ⟨k,hkk⟩:∃k:Nat,k1.1=k:=⟨k1.1.toNat,by omega⟩
 rw [hkk]
 repeat' (first|refine Ji ?_|refine am ?_|refine JF a5 H6 ?_)
 refine aP [2,3,4] (α:=Nat×Option (Nat×Nat)) (fun x=>[(5,aF x.1)]) (fun x=>x.1≤k) (fun x=>[dR b s ⟨aF U,.vec none 9 [],.vec none 2 [],bS,.vec none 2 [],.vec x.2 4 ((kQ s x.1 k1.2).1.map cL),.vec none 1 [],.vec none 1 [],.vec none 1 []⟩ (kQ s x.1 k1.2).2,tB tb]++tok x.2 123 4 ((kQ s x.1 k1.2).1.map cL).length) (fun x=>k - x.1) (0,none) rfl ⟨rfl,trivial⟩ (Nat.zero_le _) (fun _ _ h=>h) ?_
 rintro ⟨i,q⟩ hi
 dsimp only at hi ⊢
 have hal:=rW s i k1.2
 have hstep:kQ s (i+1) k1.2=(c8 (dr s 3) fun a=>c8 (dr s 4) fun b=>ret ((kQ s i k1.2).1++[(⟨jj ur i,0 - a * 100,0,b * 100⟩:ez)])) (kQ s i k1.2).2:=rfl
 try dsimp only [Js,Jr,Jq,Jl]
 repeat' (first|refine Ji ?_|refine JF a5 H6 ?_)
 refine ar rfl (fun h=>?_) (fun h=>?_)
 ·have hil:i < k:=by have:=Jy h;omega
  generalize kQ s i k1.2=A at hal hstep ⊢
  have halm:(A.1.map cL).length=A.1.length:=Ju ..
  repeat' (first|refine Ji ?_|refine am ?_)
  refine bw 15 [(0,.v),(1,.v),(2,.v),(3,.v),(4,.v),(5,.v),(6,.v),(10,.v),(7,.e),(8,.v),(9,.v),(11,.e),(12,.v),(13,.v)] (some (14,.box _ 123)) ?_ ⟨_,rfl,rfl,fun _ _ _=>mN (eJ a5 rfl) rfl⟩ rfl (by kernel_rfl) (by kernel_rfl) (by kernel_rfl) bR (by kernel_rfl) rfl
  repeat' (first|refine aD ?_|refine b7 a5 ?_|(apply ea;refine fz ?_)|fail)
  refine BB a5 ?_
  rw [uY i (by omega)]
  repeat' (first|refine aD ?_|refine ej a5 ?_|fail)
  refine xL a5 ?_
  rw [y0 i (by omega)]
  repeat' (first|refine aD ?_|fail)
  refine FB (hs:=Nat.le_of_ble_eq_true rfl) ?_
  rw [yT]
  repeat' (first|refine aD ?_|refine b7 a5 ?_|fail)
  refine t8 ?_
  have ha:=co s hs A.2.a (n:=3) (by omega)
  have ha:0≤(dr s 3 A.2).1∧(dr s 3 A.2).1 < 3:=ha
  unfold c8 at hstep
  generalize dr s 3 A.2=a at ha hstep ⊢
  dsimp only at hstep
  repeat' (first|refine aD ?_|(apply ea;refine fz ?_)|fail)
  refine t8 ?_
  have hc:=co s hs a.2.a (n:=4) (by omega)
  have hc:0≤(dr s 4 a.2).1∧(dr s 4 a.2).1 < 4:=hc
  generalize dr s 4 a.2=c at hc hstep ⊢
  try dsimp only [ret] at hstep
  repeat' (first|refine aD ?_|refine b7 a5 ?_|(apply ea;refine fz ?_)|fail)
  refine xO [2,3,4,5,6,52] (fun _=>_) (fun _=>rfl) rfl fun _=>?_
  rename_i ab
  refine aI (aQ (HY (A:=[_,_]))) ?_
  repeat' (first|refine Ji ?_|(apply aK;first|refine JH 6 a5 0 JE ?_|refine JH 6 a5 1 JE ?_|refine JH 6 a5 2 JE ?_|refine JG a5 0 JD ?_|refine JG a5 1 JD ?_|refine JG a5 2 JD ?_|refine JG a5 3 JD ?_|fail))
  refine bw 9 [(0,.v),(1,.v),(2,.v),(3,.v),(4,.v),(5,.l),(6,.v),(7,.v),(8,.e)] none ?_ trivial rfl (by kernel_rfl) (by kernel_rfl) (by kernel_rfl) bR (by kernel_rfl) rfl
  repeat' (first|refine aD ?_|refine b7 a5 ?_|refine ej a5 ?_|refine ca a5 0 rfl rfl rfl rfl (by first|trivial|rfl) ?_)
  refine f8 a5 _ rfl rfl rfl rfl (List.perm_append_comm (l₁:=[_,_])) (by simp;omega) (by simp;omega) (by first | trivial | rfl) fun q'=>?_
  refine JQ [2,3,4,5,53,61] H6 ?_
  refine aI (aQ (List.perm_append_comm (l₂:=[_,_]))) ?_
  repeat' (first|refine Ji ?_|refine JF a5 H6 ?_|(apply aS;refine aR ?_)|(apply aK;first|refine JH 6 a5 0 JE ?_|refine JH 6 a5 1 JE ?_|refine JH 6 a5 2 JE ?_|refine JG a5 0 JD ?_|refine JG a5 1 JD ?_|refine JG a5 2 JD ?_|refine JG a5 3 JD ?_|fail))
  exact aC (i+1,q') rfl ⟨by rw [Jv];rfl,trivial⟩ (by dsimp only;omega) (by dsimp only;omega) (fun _ _ h=>by dsimp only;rw [hstep];dsimp only;rw [List.map_append];exact h)
 have hil:i=k:=by have:=Jx h;omega
 subst hil
 clear hstep
 have hal:=rW s i k1.2
 generalize e3:kQ s i k1.2=A at hal ⊢
 repeat' (first|refine Ji ?_|refine JF a5 H6 ?_)
 refine c5 (bD 0 rfl fun σ vs h=>cA (k:=7) (c':= .imm 4 (A.1.map cL)) h rfl fun v hv=>VR.im hv) ?_
 refine c5 (bH (L':=[dR b s ⟨aF U,.vec none 9 [],.vec none 2 [],bS,.vec none 2 [],.imm 4 (A.1.map cL),.vec none 1 [],.vec none 1 [],.vec none 1 []⟩ A.2,tB tb]) (List.Sublist.cons_cons _ (List.Sublist.cons_cons _ (List.nil_sublist _)))) ?_
 refine t5 [2,3,4] ([dR b s ⟨aF U,.vec none 9 [],.vec none 2 [],bS,.vec none 2 [],.imm 4 (A.1.map cL),.imm 1 ((fE s i A.2).1.map bT),.vec none 1 [],.vec none 1 []⟩ (fE s i A.2).2,tB tb]) rfl (fun Q' K=>?_) ?_
 ·refine ar rfl (fun h=>?_) (fun h=>?_)
  ·have hi0:¬i=0:=by have:=Jy h;omega
   repeat' (first|refine Ji ?_|refine JF a5 H6 ?_)
   refine cC ?_
   have hn:=co s hs A.2.a (n:=4) (by omega)
   have hn:0≤(dr s 4 A.2).1∧(dr s 4 A.2).1 < 4:=hn
   generalize e4:dr s 4 A.2=n1 at hn ⊢
   obtain ⟨n,hnn⟩:∃k:Nat,n1.1=k:=⟨n1.1.toNat,by omega⟩
   have hv:fE s i A.2=kF s i n n1.2:=by
    unfold fE
    rw [if_neg hi0]
    unfold c8
    rw [e4]
    dsimp only
    rw [hnn,Int.toNat_natCast]
   rw [hv] at K
   rw [hnn]
   repeat' (first|refine Ji ?_|refine am ?_|refine JF a5 H6 ?_)
   refine aP [2,3,4,7] (α:=Nat×Option (Nat×Nat)) (fun x=>[(8,aF x.1)]) (fun x=>x.1≤n) (fun x=>[dR b s ⟨aF U,.vec none 9 [],.vec none 2 [],bS,.vec none 2 [],.imm 4 (A.1.map cL),.vec x.2 1 ((kF s i x.1 n1.2).1.map bT),.vec none 1 [],.vec none 1 []⟩ (kF s i x.1 n1.2).2,tB tb]++tok x.2 128 1 ((kF s i x.1 n1.2).1.map bT).length) (fun x=>n - x.1) (0,none) rfl ⟨rfl,trivial⟩ (Nat.zero_le _) (fun _ _ h=>h) ?_
   rintro ⟨j,q⟩ hj
   dsimp only at hj ⊢
   have hrl:=sI s i j n1.2
   have hstep:kF s i (j+1) n1.2=((kF s i j n1.2).1++[(i6 s i (kF s i j n1.2).2).1],(i6 s i (kF s i j n1.2).2).2):=rfl
   try dsimp only [Js,Jr,Jq,Jl]
   repeat' (first|refine Ji ?_|refine JF a5 H6 ?_)
   refine ar rfl (fun h=>?_) (fun h=>?_)
   ·have hjn:j < n:=by have:=Jy h;omega
    generalize kF s i j n1.2=Rg at hrl hstep ⊢
    have hrlm:(Rg.1.map bT).length=Rg.1.length:=Ju ..
    repeat' (first|refine Ji ?_|refine am ?_|refine JF a5 H6 ?_|refine bj a5 fun _=>?_|fail)
    rename_i rb
    refine c5 (bD 0 (cs':=[.vec none 3 []]) rfl fun σ vs h=>cA (k:=0) h rfl fun v hv=>cS 3 hv) ?_
    refine c5 (aQ (List.perm_middle (l₁:=[_,_])).symm) ?_
    refine aP [2,3,4,7,8,9] (α:=Nat×Option (Nat×Nat)) (fun x=>[(10,aF x.1)]) (fun x=>x.1≤i) (fun x=>[dR b s ⟨aF U,.vec none 9 [],.vec none 2 [],bS,.vec none 2 [],.imm 4 (A.1.map cL),.vec q 1 (Rg.1.map bT),.vec none 1 [],.vec none 1 []⟩ (i6 s x.1 Rg.2).2,tB tb,(rb,.box [.vec x.2 3 ((i6 s x.1 Rg.2).1.map kz)] 128)]++(tok x.2 125 3 ((i6 s x.1 Rg.2).1.map kz).length++tok q 128 1 (Rg.1.map bT).length)) (fun x=>i - x.1) (0,none) rfl ⟨rfl,trivial⟩ (Nat.zero_le _) (fun _ _ h=>h) ?_
    rintro ⟨a,qt⟩ ha
    dsimp only at ha ⊢
    have htl:=xl s a Rg.2
    have hstt:i6 s (a+1) Rg.2=(c8 (dr s 5) fun z=>ret ((i6 s a Rg.2).1++[ku.getD z.toNat ⟨0,0,0⟩])) (i6 s a Rg.2).2:=rfl
    try dsimp only [Js,Jr,Jq,Jl]
    repeat' (first|refine Ji ?_|refine JF a5 H6 ?_)
    refine ar rfl (fun h=>?_) (fun h=>?_)
    ·have hai:a < i:=by have:=Jy h;omega
     generalize i6 s a Rg.2=Tn at htl hstt ⊢
     have htlm:(Tn.1.map kz).length=Tn.1.length:=Ju ..
     repeat' (first|refine Ji ?_|refine am ?_)
     refine dk [.cell (rb,0,.vec qt 3 (Tn.1.map kz))] 13 [(0,.v),(1,.k),(2,.v),(3,.v),(4,.v),(5,.v),(6,.v),(7,.v),(8,.v),(9,.f),(10,.v),(11,.v),(12,.v)] none ?_ trivial rfl (by kernel_rfl) (by kernel_rfl) (by kernel_rfl) bR (by kernel_rfl) rfl
     repeat' (first|refine aD ?_|refine b7 a5 ?_|fail)
     refine dI a5 0 rfl rfl rfl (bN 2 rfl rfl bY) (by first | trivial | rfl) ?_
     repeat' (first|refine aD ?_|refine b7 a5 ?_|refine ej a5 ?_|fail)
     refine eF (bN 2 rfl rfl bY) ?_
     have hz:=co s hs Tn.2.a (n:=5) (by omega)
     have hz:0≤(dr s 5 Tn.2).1∧(dr s 5 Tn.2).1 < 5:=hz
     unfold c8 at hstt
     generalize dr s 5 Tn.2=z at hz hstt ⊢
     dsimp only [ret] at hstt
     have hzt:(ku.map kz)[z.1.toNat]?=some (kz (ku.getD z.1.toNat ⟨0,0,0⟩)):=by
      rw [List.getElem?_map,lJ (l:=ku) (i:=z.1.toNat) (by simp only [ku,List.length_cons,List.length_nil];omega) ⟨0,0,0⟩]
      rfl
     generalize ku.getD z.1.toNat ⟨0,0,0⟩=tn at hzt hstt
     repeat' (first|refine aD ?_|refine b7 a5 ?_|(apply bV;refine cn a5 ?_)|refine ej a5 ?_|fail)
     refine JQ [2,3,4,7,8,9,10,80,91] H6 ?_
     repeat' (first|fail)
     refine bK a5 _ rfl rfl rfl rfl (eI (A:=[_,_,_])) (by simp;omega) (by simp;omega) rfl fun q'=>?_
     refine aI (aQ (eI (A:=[_,_,_])).symm) ?_
     repeat' (first|refine Ji ?_|refine JF a5 H6 ?_|(apply aS;refine aR ?_)|(apply aK;first|refine JH 6 a5 0 JE ?_|refine JH 6 a5 1 JE ?_|refine JH 6 a5 2 JE ?_|refine JG a5 0 JD ?_|refine JG a5 1 JD ?_|refine JG a5 2 JD ?_|refine JG a5 3 JD ?_|fail))
     exact aC (a+1,q') rfl ⟨by rw [Jv];rfl,trivial⟩ (by dsimp only;omega) (by dsimp only;omega) (fun _ _ h=>by dsimp only;rw [hstt];dsimp only;rw [List.map_append];exact h)
    have hai:a=i:=by have:=Jx h;omega
    subst hai
    clear hstt htl
    generalize i6 s a Rg.2=Tn at hstep ⊢
    repeat' (first|refine Ji ?_|fail)
    refine c5 (bD 2 (cs':=[.imm 3 (Tn.1.map kz)]) rfl fun σ vs h=>cA (k:=0) h rfl fun v hv=>VR.im hv) ?_
    refine c5 (bH (L':=[dR b s ⟨aF U,.vec none 9 [],.vec none 2 [],bS,.vec none 2 [],.imm 4 (A.1.map cL),.vec q 1 (Rg.1.map bT),.vec none 1 [],.vec none 1 []⟩ Tn.2,tB tb,(rb,.box (bT Tn.1) 128)]++tok q 128 1 (Rg.1.map bT).length) (List.Sublist.cons_cons _ (List.Sublist.cons_cons _ (List.Sublist.cons_cons _ (List.sublist_append_right _ _))))) ?_
    refine bw 9 [(0,.v),(1,.v),(2,.v),(3,.v),(4,.v),(5,.l),(6,.l),(7,.v),(8,.e)] none ?_ trivial rfl (by kernel_rfl) (by kernel_rfl) (by kernel_rfl) bR (by kernel_rfl) rfl
    repeat' (first|refine aD ?_|refine b7 a5 ?_|refine ca a5 0 rfl rfl rfl rfl (by first|trivial|rfl) ?_)
    refine py a5 2 rfl rfl rfl rfl (by first | trivial | rfl) ?_
    repeat' (first|refine aD ?_|refine ej a5 ?_|fail)
    refine f8 a5 _ rfl rfl rfl rfl (List.perm_append_comm (l₁:=[_,_,_])) (by simp;omega) (by simp;omega) (by first | trivial | rfl) fun q'=>?_
    refine JQ [2,3,4,7,8,94,102] H6 ?_
    refine aI (aQ (List.perm_append_comm (l₂:=[_,_,_]))) ?_
    repeat' (first|refine Ji ?_|refine JF a5 H6 ?_|(apply aS;refine aR ?_)|(apply aK;first|refine JH 6 a5 0 JE ?_|refine JH 6 a5 1 JE ?_|refine JH 6 a5 2 JE ?_|refine JG a5 0 JD ?_|refine JG a5 1 JD ?_|refine JG a5 2 JD ?_|refine JG a5 3 JD ?_|fail))
    exact aC (j+1,q') rfl ⟨by rw [Jv];rfl,trivial⟩ (by dsimp only;omega) (by dsimp only;omega) (fun _ _ h=>by dsimp only;rw [hstep];dsimp only;rw [List.map_append];exact h.sublist (List.Sublist.cons_cons _ (List.Sublist.cons_cons _ (List.sublist_cons_self ..))))
   have hjn:j=n:=by have:=Jx h;omega
   subst hjn
   generalize kF s i j n1.2=Rg at K ⊢
   repeat' (first|refine Ji ?_|fail)
   refine bk (bD 0 rfl fun σ vs h=>cA (k:=8) (c':= .imm 1 (Rg.1.map bT)) h rfl fun v hv=>VR.im hv) ?_
   refine bk (bH (L':=[dR b s ⟨aF U,.vec none 9 [],.vec none 2 [],bS,.vec none 2 [],.imm 4 (A.1.map cL),.imm 1 (Rg.1.map bT),.vec none 1 [],.vec none 1 []⟩ Rg.2,tB tb]) (List.Sublist.cons_cons _ (List.Sublist.cons_cons _ (List.nil_sublist _)))) ?_
   exact K _ rfl
  ·have hi0:i=0:=by have:=Jx h;omega
   have hv:fE s i A.2=([],A.2):=by
    unfold fE
    rw [if_pos hi0]
    rfl
   rw [hv] at K
   repeat' (first|refine Ji ?_|fail)
   refine bk (bD 0 rfl fun σ vs h=>cA (k:=8) (c':= .imm 1 []) h rfl fun v hv=>VR.im hv) ?_
   exact K _ rfl
 generalize e4:fE s i A.2=rg
 repeat' (first|refine Ji ?_|refine JF a5 H6 ?_)
 refine cC ?_
 have hk2:=co s hs rg.2.a (n:=3) (by omega)
 have hk2:0≤(dr s 3 rg.2).1∧(dr s 3 rg.2).1 < 3:=hk2
 generalize e5:dr s 3 rg.2=k2 at hk2 ⊢
 obtain ⟨k',hkk2⟩:∃k:Nat,k2.1=k:=⟨k2.1.toNat,by omega⟩
 rw [hkk2]
 repeat' (first|refine Ji ?_|refine am ?_|refine JF a5 H6 ?_)
 refine aP [2,3,4] (α:=Nat×Option (Nat×Nat)) (fun x=>[(11,aF x.1)]) (fun x=>x.1≤k') (fun x=>[dR b s ⟨aF U,.vec none 9 [],.vec none 2 [],bS,.vec none 2 [],.imm 4 (A.1.map cL),.imm 1 (rg.1.map bT),.vec x.2 1 ((iI s x.1 k2.2).1.map dD),.vec none 1 []⟩ (iI s x.1 k2.2).2,tB tb]++tok x.2 74 1 ((iI s x.1 k2.2).1.map dD).length) (fun x=>k' - x.1) (0,none) rfl ⟨rfl,trivial⟩ (Nat.zero_le _) (fun _ _ h=>h) ?_
 rintro ⟨j,q2⟩ hj
 dsimp only at hj ⊢
 have hfl:=wz s j k2.2
 have hstep:iI s (j+1) k2.2=(c8 (gV 0) fun _=>c8 (n5 s 6 j 4) fun h=>ret ((iI s j k2.2).1++[h])) (iI s j k2.2).2:=rfl
 try dsimp only [Js,Jr,Jq,Jl]
 repeat' (first|refine Ji ?_|refine JF a5 H6 ?_)
 refine ar rfl (fun h=>?_) (fun h=>?_)
 ·have hjk:j < k':=by have:=Jy h;omega
  generalize iI s j k2.2=Fu at hfl hstep ⊢
  have hflm:(Fu.1.map dD).length=Fu.1.length:=Ju ..
  unfold c8 at hstep
  repeat' (first|refine Ji ?_|refine am ?_|refine JF a5 H6 ?_|(apply aK;first|refine JH 6 a5 0 JE ?_|refine JH 6 a5 1 JE ?_|refine JH 6 a5 2 JE ?_|refine JG a5 0 JD ?_|refine JG a5 1 JD ?_|refine JG a5 2 JD ?_|refine JG a5 3 JD ?_|fail))
  refine c5 (aQ (L':=[dR b s ⟨aF U,.vec none 9 [],.vec none 2 [],bS,.vec none 2 [],.imm 4 (A.1.map cL),.imm 1 (rg.1.map bT),.vec q2 1 (Fu.1.map dD),.vec none 1 []⟩ (gV 0 Fu.2).2,tB tb]++tok q2 74 1 (Fu.1.map dD).length) (Jo _)) ?_
  generalize (gV 0 Fu.2).2=w at hstep ⊢
  dsimp only at hstep
  refine dk [.cell (b,9,.vec q2 1 (Fu.1.map dD))] 11 [(0,.v),(1,.v),(2,.v),(3,.v),(4,.v),(5,.k),(6,.v),(7,.v),(8,.f),(9,.v),(10,.e)] none ?_ trivial rfl (by kernel_rfl) (by kernel_rfl) (by kernel_rfl) bR (by kernel_rfl) rfl
  repeat' (first|refine aD ?_|refine b7 a5 ?_|fail)
  refine dI a5 0 rfl rfl rfl (bN 0 rfl rfl bY) (by first | trivial | rfl) ?_
  repeat' (first|refine aD ?_|refine b7 a5 ?_|fail)
  refine s4 (sm s hs _ (n:=6) (fn:=(j:Int)) (most:=4) (by omega) (by omega) (by omega)) (bN 0 rfl rfl bY) ?_
  generalize n5 s 6 j 4 w=hi at hstep ⊢
  try dsimp only [ret] at hstep
  unfold jv
  repeat' (first|refine aD ?_|refine ej a5 ?_|fail)
  refine f8 a5 _ rfl rfl rfl rfl (List.perm_append_comm (l₁:=[_,_])) (by simp;omega) (by simp;omega) (by first | trivial | rfl) fun q'=>?_
  refine JQ [2,3,4,11,116,126] H6 ?_
  refine aI (aQ (List.perm_append_comm (l₂:=[_,_]))) ?_
  repeat' (first|refine Ji ?_|refine JF a5 H6 ?_|(apply aS;refine aR ?_)|(apply aK;first|refine JH 6 a5 0 JE ?_|refine JH 6 a5 1 JE ?_|refine JH 6 a5 2 JE ?_|refine JG a5 0 JD ?_|refine JG a5 1 JD ?_|refine JG a5 2 JD ?_|refine JG a5 3 JD ?_|fail))
  exact aC (j+1,q') rfl ⟨by rw [Jv];rfl,trivial⟩ (by dsimp only;omega) (by dsimp only;omega) (fun _ _ h=>by dsimp only;rw [hstep];dsimp only;rw [List.map_append];exact h)
 have hjk:j=k':=by have:=Jx h;omega
 subst hjk
 clear hstep
 generalize e6:iI s j k2.2=fu at hfl ⊢
 repeat' (first|refine Ji ?_|refine JF a5 H6 ?_)
 refine aI (bD 0 rfl fun σ vs h=>cA (k:=9) (c':= .imm 1 (fu.1.map dD)) h rfl fun v hv=>VR.im hv) ?_
 refine aI (bH (L':=[dR b s ⟨aF U,.vec none 9 [],.vec none 2 [],bS,.vec none 2 [],.imm 4 (A.1.map cL),.imm 1 (rg.1.map bT),.imm 1 (fu.1.map dD),.vec none 1 []⟩ fu.2,tB tb]) (List.Sublist.cons_cons _ (List.Sublist.cons_cons _ (List.nil_sublist _)))) ?_
 refine cC ?_
 have hk3:=co s hs fu.2.a (n:=4) (by omega)
 have hk3:0≤(dr s 4 fu.2).1∧(dr s 4 fu.2).1 < 4:=hk3
 generalize e7:dr s 4 fu.2=k3 at hk3 ⊢
 obtain ⟨k'',hkk3⟩:∃k:Nat,k3.1=k:=⟨k3.1.toNat,by omega⟩
 rw [hkk3]
 repeat' (first|refine Ji ?_|refine am ?_|refine JF a5 H6 ?_)
 refine aP [2,3,4] (α:=Nat×Option (Nat×Nat)) (fun x=>[(12,aF x.1)]) (fun x=>x.1≤k'') (fun x=>[dR b s ⟨aF U,.vec none 9 [],.vec none 2 [],bS,.vec none 2 [],.imm 4 (A.1.map cL),.imm 1 (rg.1.map bT),.imm 1 (fu.1.map dD),.vec x.2 1 (aX (qb s x.1 k3.2).1)⟩ (qb s x.1 k3.2).2,tB tb]++tok x.2 3 1 (aX (qb s x.1 k3.2).1).length) (fun x=>k'' - x.1) (0,none) rfl ⟨rfl,trivial⟩ (Nat.zero_le _) (fun _ _ h=>h) ?_
 rintro ⟨jc,q3⟩ hjc
 dsimp only at hjc ⊢
 have hcl:=By s jc k3.2
 have hstep:qb s (jc+1) k3.2=(c8 (dr s 500) fun z=>ret ((qb s jc k3.2).1++[z - 100])) (qb s jc k3.2).2:=rfl
 try dsimp only [Js,Jr,Jq,Jl]
 repeat' (first|refine Ji ?_|refine JF a5 H6 ?_)
 refine ar rfl (fun h=>?_) (fun h=>?_)
 ·have hjk:jc < k'':=by have:=Jy h;omega
  generalize qb s jc k3.2=C at hcl hstep ⊢
  have hclm:(aX C.1).length=C.1.length:=aZ _
  unfold c8 at hstep
  repeat' (first|refine Ji ?_|refine am ?_)
  refine dk [.cell (b,10,.vec q3 1 (aX C.1))] 11 [(0,.v),(1,.v),(2,.v),(3,.v),(4,.v),(5,.k),(6,.v),(7,.f),(8,.v),(9,.v),(10,.e)] none ?_ trivial rfl (by kernel_rfl) (by kernel_rfl) (by kernel_rfl) bR (by kernel_rfl) rfl
  repeat' (first|refine aD ?_|refine b7 a5 ?_|fail)
  refine dI a5 0 rfl rfl rfl (bN 0 rfl rfl bY) (by first | trivial | rfl) ?_
  repeat' (first|refine aD ?_|refine b7 a5 ?_|fail)
  refine eF (bN 0 rfl rfl bY) ?_
  have hz:=co s hs C.2.a (n:=500) (by omega)
  have hz:0≤(dr s 500 C.2).1∧(dr s 500 C.2).1 < 500:=hz
  generalize dr s 500 C.2=z at hz hstep ⊢
  try dsimp only [ret] at hstep
  repeat' (first|refine aD ?_|(apply ea;refine fz ?_)|refine ej a5 ?_|fail)
  refine f8 a5 _ rfl rfl rfl rfl (List.perm_append_comm (l₁:=[_,_])) (by simp [aZ];omega) (by simp [aZ];omega) (by first | trivial | rfl) fun q'=>?_
  refine JQ [2,3,4,12,137,147] H6 ?_
  refine aI (aQ (List.perm_append_comm (l₂:=[_,_]))) ?_
  repeat' (first|refine Ji ?_|refine JF a5 H6 ?_|(apply aS;refine aR ?_)|(apply aK;first|refine JH 6 a5 0 JE ?_|refine JH 6 a5 1 JE ?_|refine JH 6 a5 2 JE ?_|refine JG a5 0 JD ?_|refine JG a5 1 JD ?_|refine JG a5 2 JD ?_|refine JG a5 3 JD ?_|fail))
  exact aC (jc+1,q') rfl ⟨by rw [Jv];rfl,trivial⟩ (by dsimp only;omega) (by dsimp only;omega) (fun _ _ h=>by dsimp only;rw [hstep];dsimp only;rw [show aX (C.1++[z.1 - 100])=aX C.1++[[aF (z.1 - 100)]] from List.map_append ..];exact h)
 have hjk:jc=k'':=by have:=Jx h;omega
 subst hjk
 clear hstep
 generalize e8:qb s jc k3.2=cv at hcl ⊢
 repeat' (first|refine Ji ?_|refine JF a5 H6 ?_)
 refine aI (bD 0 rfl fun σ vs h=>cA (k:=10) (c':= .imm 1 (aX cv.1)) h rfl fun v hv=>VR.im hv) ?_
 refine aI (bH (L':=[dR b s ⟨aF U,.vec none 9 [],.vec none 2 [],bS,.vec none 2 [],.imm 4 (A.1.map cL),.imm 1 (rg.1.map bT),.imm 1 (fu.1.map dD),.imm 1 (aX cv.1)⟩ cv.2,tB tb]) (List.Sublist.cons_cons _ (List.Sublist.cons_cons _ (List.nil_sublist _)))) ?_
 refine cC ?_
 have hk4:=co s hs cv.2.a (n:=9) (by omega)
 have hk4:0≤(dr s 9 cv.2).1∧(dr s 9 cv.2).1 < 9:=hk4
 generalize e9:dr s 9 cv.2=k4 at hk4 ⊢
 obtain ⟨n,hkk4⟩:∃k:Nat,2+k4.1=k:=⟨(2+k4.1).toNat,by omega⟩
 repeat' (first|refine Ji ?_|refine am ?_|refine JF a5 H6 ?_|(apply aS;refine aR ?_)|fail)
 rw [hkk4]
 have hrgl:(rg.1.map bT).length=rg.1.length:=Ju ..
 have hful:(fu.1.map dD).length=fu.1.length:=Ju ..
 have hrg3:rg.1.length≤1000:=by
  have hR:bU (fE s A.1.length) fun l=>l.length≤3:=bU.ite (fun _=>bU.ret (Nat.zero_le _)) fun _=>(cO s (by omega)).bnd fun n hn m=>by rw [sI];omega
  have:=hR A.2
  rw [hal] at this
  rw [←e4]
  omega
 refine aP [2,3,4] (α:=Nat×Option (Nat×Nat)) (fun x=>[(13,aF x.1)]) (fun x=>x.1≤n) (fun x=>[dR b s ⟨aF U,.vec x.2 9 ((gk s rg.1.length fu.1.length x.1 k4.2).1.map bO),.vec none 2 [],bS,.vec none 2 [],.imm 4 (A.1.map cL),.imm 1 (rg.1.map bT),.imm 1 (fu.1.map dD),.imm 1 (aX cv.1)⟩ (gk s rg.1.length fu.1.length x.1 k4.2).2,tB tb]++tok x.2 76 9 ((gk s rg.1.length fu.1.length x.1 k4.2).1.map bO).length) (fun x=>n - x.1) (0,none) rfl ⟨rfl,trivial⟩ (Nat.zero_le _) (fun _ _ h=>h) ?_
 rintro ⟨jg,q4⟩ hjg
 dsimp only at hjg ⊢
 have hgl:=uO s rg.1.length fu.1.length jg k4.2
 have hstep:gk s rg.1.length fu.1.length (jg+1) k4.2=(c8 (ke s rg.1.length fu.1.length jg) fun g=>ret ((gk s rg.1.length fu.1.length jg k4.2).1++[g])) (gk s rg.1.length fu.1.length jg k4.2).2:=rfl
 try dsimp only [Js,Jr,Jq,Jl]
 repeat' (first|refine Ji ?_|refine JF a5 H6 ?_)
 refine ar rfl (fun h=>?_) (fun h=>?_)
 ·have hjn:jg < n:=by have:=Jy h;omega
  generalize gk s rg.1.length fu.1.length jg k4.2=Gs at hgl hstep ⊢
  have hglm:(Gs.1.map bO).length=Gs.1.length:=Ju ..
  unfold c8 at hstep
  repeat' (first|refine Ji ?_|refine am ?_|refine JF a5 H6 ?_)
  refine b8 ([dR b s ⟨aF U,.vec q4 9 (Gs.1.map bO),.vec none 2 [],bS,.vec none 2 [],.imm 4 (A.1.map cL),.imm 1 (rg.1.map bT),.imm 1 (fu.1.map dD),.imm 1 (aX cv.1)⟩ Gs.2]++(tok q4 76 9 (Gs.1.map bO).length++[])) [tB tb] (BZ s hs ⟨aF U,.vec q4 9 (Gs.1.map bO),.vec none 2 [],bS,.vec none 2 [],.imm 4 (A.1.map cL),.imm 1 (rg.1.map bT),.imm 1 (fu.1.map dD),.imm 1 (aX cv.1)⟩ rfl rfl rfl rg.1.length fu.1.length jg hrgl hful (by omega) (by omega) (by omega) (by omega) b Gs.2) rfl rfl CO rfl fun c L1 ⟨q',hL1⟩=>?_
  subst hL1
  refine aI (aQ CO.symm) ?_
  generalize ke s rg.1.length fu.1.length jg Gs.2=g at hstep ⊢
  try dsimp only [ret] at hstep
  repeat' (first|refine Ji ?_|refine JF a5 H6 ?_|(apply aS;refine aR ?_)|fail)
  exact aC (jg+1,q') rfl ⟨by rw [Jv];rfl,trivial⟩ (by dsimp only;omega) (by dsimp only;omega) (fun _ _ h=>by dsimp only;rw [hstep];dsimp only;rw [List.map_append];exact h)
 have hjn:jg=n:=by have:=Jx h;omega
 subst hjn
 clear hstep
 generalize e10:gk s rg.1.length fu.1.length jg k4.2=gl at hgl ⊢
 have hglm:(gl.1.map bO).length=gl.1.length:=Ju ..
 repeat' (first|refine Ji ?_|fail)
 refine bo (hc:=⟨A8⟩) ?_
 refine aI (bH (L':=[dR b s ⟨aF U,.vec q4 9 (gl.1.map bO),.vec none 2 [],bS,.vec none 2 [],.imm 4 (A.1.map cL),.imm 1 (rg.1.map bT),.imm 1 (fu.1.map dD),.imm 1 (aX cv.1)⟩ gl.2,tB tb]) (List.Sublist.cons_cons _ (List.Sublist.cons_cons _ (List.nil_sublist _)))) ?_
 repeat' (first|refine Ji ?_|refine am ?_|refine JF a5 H6 ?_)
 have hr16:(aX fO).length=16:=rfl
 refine aP [2,3,14] (α:=Nat×Option (Nat×Nat)) (fun x=>[(15,aF x.1)]) (fun x=>x.1≤16) (fun x=>[dR b s ⟨aF U,.vec q4 9 (gl.1.map bO),.vec x.2 2 ((hQ s gl.1.length x.1 gl.2).1.map eh),bS,.vec none 2 [],.imm 4 (A.1.map cL),.imm 1 (rg.1.map bT),.imm 1 (fu.1.map dD),.imm 1 (aX cv.1)⟩ (hQ s gl.1.length x.1 gl.2).2,tB tb]++tok x.2 119 2 ((hQ s gl.1.length x.1 gl.2).1.map eh).length) (fun x=>16 - x.1) (0,none) rfl ⟨rfl,trivial⟩ (Nat.zero_le _) (fun _ _ h=>h) ?_
 rintro ⟨jr,q5⟩ hjr
 dsimp only at hjr ⊢
 have hcl2:=wj s gl.1.length jr gl.2
 have hstep:hQ s gl.1.length (jr+1) gl.2=(c8 (dr s 4) fun z=>if 0 < z then c8 (dr s gl.1.length) fun g=>ret ((hQ s gl.1.length jr gl.2).1++[(⟨fO.getD jr 0,g⟩:ga)]) else ret (hQ s gl.1.length jr gl.2).1) (hQ s gl.1.length jr gl.2).2:=rfl
 try dsimp only [Js,Jr,Jq,Jl]
 repeat' (first|refine Ji ?_|refine JF a5 H6 ?_)
 refine ar rfl (fun h=>?_) (fun h=>?_)
 ·have hj16:jr < 16:=by have:=Jy h;rw [hr16] at this;omega
  have hrn:(aX fO)[jr]?=some [aF (fO.getD jr 0)]:=bP (lJ hj16 0)
  generalize fO.getD jr 0=rn at hrn hstep
  generalize hQ s gl.1.length jr gl.2=Ch at hcl2 hstep ⊢
  have hchm:(Ch.1.map eh).length=Ch.1.length:=Ju ..
  unfold c8 at hstep
  repeat' (first|refine Ji ?_|refine am ?_|refine JF a5 H6 ?_)
  refine cC ?_
  generalize dr s 4 Ch.2=z at hstep ⊢
  dsimp only at hstep
  repeat' (first|refine Ji ?_|refine JF a5 H6 ?_)
  refine ar rfl (fun hz=>?_) (fun hz=>?_)
  ·rw [if_pos (Jy hz)] at hstep
   repeat' (first|fail)
   refine dk [.cell (b,4,.vec q5 2 (Ch.1.map eh))] 21 [(0,.v),(1,.v),(2,.v),(3,.v),(4,.v),(5,.k),(6,.v),(7,.v),(8,.v),(9,.v),(10,.v),(11,.v),(12,.v),(13,.v),(14,.v),(15,.l),(16,.v),(17,.f),(18,.v),(19,.v),(20,.e)] none ?_ trivial rfl (by kernel_rfl) (by kernel_rfl) (by kernel_rfl) bR (by kernel_rfl) rfl
   repeat' (first|refine aD ?_|refine b7 a5 ?_|fail)
   refine dI a5 0 rfl rfl rfl (bN 0 rfl rfl bY) (by first | trivial | rfl) ?_
   repeat' (first|refine aD ?_|refine b7 a5 ?_|(apply bV;refine cn a5 ?_)|refine ca a5 0 rfl rfl rfl rfl (by first|trivial|rfl) ?_)
   rw [hglm]
   refine eF (bN 0 rfl rfl bY) ?_
   generalize dr s gl.1.length z.2=g at hstep ⊢
   try dsimp only [ret] at hstep
   repeat' (first|refine aD ?_|refine b7 a5 ?_|refine ej a5 ?_|fail)
   refine f8 a5 _ rfl rfl rfl rfl (List.perm_append_comm (l₁:=[_,_])) (by simp;omega) (by simp;omega) (by first | trivial | rfl) fun q'=>?_
   refine JQ [2,3,14,15,172,192] H6 ?_
   refine aI (aQ (List.perm_append_comm (l₂:=[_,_]))) ?_
   repeat' (first|refine Ji ?_|refine JF a5 H6 ?_|(apply aS;refine aR ?_)|(apply aK;first|refine JH 6 a5 0 JE ?_|refine JH 6 a5 1 JE ?_|refine JH 6 a5 2 JE ?_|refine JG a5 0 JD ?_|refine JG a5 1 JD ?_|refine JG a5 2 JD ?_|refine JG a5 3 JD ?_|fail))
   exact aC (jr+1,q') rfl ⟨by rw [Jv];rfl,trivial⟩ (by dsimp only;omega) (by dsimp only;omega) (fun _ _ h=>by dsimp only;rw [hstep];dsimp only;rw [List.map_append];exact h)
  ·rw [if_neg (Jx hz)] at hstep
   try dsimp only [ret] at hstep
   repeat' (first|refine Ji ?_|refine JF a5 H6 ?_|(apply aS;refine aR ?_)|fail)
   exact aC (jr+1,q5) rfl ⟨by rw [Jv];rfl,trivial⟩ (by dsimp only;omega) (by dsimp only;omega) (fun _ _ h=>by dsimp only;rw [hstep];exact h)
 have hj16:jr=16:=by have:=Jx h;rw [hr16] at this;omega
 subst hj16
 clear hstep
 generalize e11:hQ s gl.1.length 16 gl.2=ch at hcl2 ⊢
 repeat' (first|refine Ji ?_|refine JF a5 H6 ?_)
 refine aI (bD 0 rfl fun σ vs h=>cA (k:=4) (c':= .imm 2 (ch.1.map eh)) h rfl fun v hv=>VR.im hv) ?_
 refine aI (bH (L':=[dR b s ⟨aF U,.vec q4 9 (gl.1.map bO),.imm 2 (ch.1.map eh),bS,.vec none 2 [],.imm 4 (A.1.map cL),.imm 1 (rg.1.map bT),.imm 1 (fu.1.map dD),.imm 1 (aX cv.1)⟩ ch.2]++[tB tb]) (List.Sublist.cons_cons _ (List.Sublist.cons_cons _ (List.nil_sublist _)))) ?_
 refine b8 [dR b s ⟨aF U,.vec q4 9 (gl.1.map bO),.imm 2 (ch.1.map eh),bS,.vec none 2 [],.imm 4 (A.1.map cL),.imm 1 (rg.1.map bT),.imm 1 (fu.1.map dD),.imm 1 (aX cv.1)⟩ ch.2] [tB tb] (wQ s hs ⟨aF U,.vec q4 9 (gl.1.map bO),.imm 2 (ch.1.map eh),bS,.vec none 2 [],.imm 4 (A.1.map cL),.imm 1 (rg.1.map bT),.imm 1 (fu.1.map dD),.imm 1 (aX cv.1)⟩ rfl rfl gl.1.length hglm (by omega) b ch.2) rfl rfl (Jo _) rfl fun c L1 hL1=>?_
 subst hL1
 have hlk6:=(oW s (n:=gl.1.length) (by omega) ch.2).len
 generalize e12:iK s gl.1.length ch.2=lk at hlk6 ⊢
 have hlkm:(lk.1.map bh).length=lk.1.length:=Ju ..
 repeat' (first|refine Ji ?_|fail)
 refine bo (hc:=⟨va⟩) ?_
 refine aI (aQ (L':=[dR b s ⟨aF U,.vec q4 9 (gl.1.map bO),.imm 2 (ch.1.map eh),.imm 3 (lk.1.map bh),.vec none 2 [],.imm 4 (A.1.map cL),.imm 1 (rg.1.map bT),.imm 1 (fu.1.map dD),.imm 1 (aX cv.1)⟩ lk.2,tB tb]) (Jo _)) ?_
 repeat' (first|refine Ji ?_|refine am ?_|refine JF a5 H6 ?_)
 have hn8:(Dc fN).length=8:=rfl
 refine aP [2,3,16] (α:=Nat×Option (Nat×Nat)) (fun x=>[(17,aF x.1)]) (fun x=>x.1≤8) (fun x=>[dR b s ⟨aF U,.vec q4 9 (gl.1.map bO),.imm 2 (ch.1.map eh),.imm 3 (lk.1.map bh),.vec x.2 2 ((hZ s lk.1.length x.1 lk.2).1.map cm),.imm 4 (A.1.map cL),.imm 1 (rg.1.map bT),.imm 1 (fu.1.map dD),.imm 1 (aX cv.1)⟩ (hZ s lk.1.length x.1 lk.2).2,tB tb]++tok x.2 121 2 ((hZ s lk.1.length x.1 lk.2).1.map cm).length) (fun x=>8 - x.1) (0,none) rfl ⟨rfl,trivial⟩ (Nat.zero_le _) (fun _ _ h=>h) ?_
 rintro ⟨jf,q6⟩ hjf
 dsimp only at hjf ⊢
 have hftl:=wt s lk.1.length jf lk.2
 have hstep:hZ s lk.1.length (jf+1) lk.2=(c8 (nT s lk.1.length) fun r=>c8 (dr s 2) fun z=>ret (if z=0 then (hZ s lk.1.length jf lk.2).1++[(⟨fN.getD jf ByteArray.empty,r⟩:c6)] else (hZ s lk.1.length jf lk.2).1)) (hZ s lk.1.length jf lk.2).2:=rfl
 try dsimp only [Js,Jr,Jq,Jl]
 repeat' (first|refine Ji ?_|refine JF a5 H6 ?_)
 refine ar rfl (fun h=>?_) (fun h=>?_)
 ·have hj8:jf < 8:=by have:=Jy h;rw [hn8] at this;omega
  have hnm:(Dc fN)[jf]?=some [vP (fN.getD jf ByteArray.empty)]:=Dd (lJ hj8 ByteArray.empty)
  generalize fN.getD jf ByteArray.empty=nm at hnm hstep
  generalize hZ s lk.1.length jf lk.2=Ft at hftl hstep ⊢
  have hftm:(Ft.1.map cm).length=Ft.1.length:=Ju ..
  unfold c8 at hstep
  repeat' (first|refine Ji ?_|refine am ?_|refine JF a5 H6 ?_)
  refine c5 (bQ (t:=18) (c':= .vec none 1 []) rfl fun σ v h=>cS 1 h) ?_
  refine aP [2,3,16,17] (α:=Nat×Option (Nat×Nat)) (fun x=>[(19,aF x.1),(18,.vec x.2 1 (aX (nT s x.1 Ft.2).1))]) (fun x=>x.1≤lk.1.length) (fun x=>[dR b s ⟨aF U,.vec q4 9 (gl.1.map bO),.imm 2 (ch.1.map eh),.imm 3 (lk.1.map bh),.vec q6 2 (Ft.1.map cm),.imm 4 (A.1.map cL),.imm 1 (rg.1.map bT),.imm 1 (fu.1.map dD),.imm 1 (aX cv.1)⟩ (nT s x.1 Ft.2).2,tB tb]++(tok x.2 3 1 (aX (nT s x.1 Ft.2).1).length++tok q6 121 2 (Ft.1.map cm).length)) (fun x=>lk.1.length - x.1) (0,none) rfl ⟨rfl,rfl,trivial⟩ (Nat.zero_le _) (fun _ _ h=>h) ?_
  rintro ⟨a,q7⟩ ha
  dsimp only at ha ⊢
  have hal7:=Bb s a Ft.2
  have hst7:nT s (a+1) Ft.2=(c8 (dr s 3) fun z=>ret (if z=0 then (nT s a Ft.2).1++[(a:Int)] else (nT s a Ft.2).1)) (nT s a Ft.2).2:=rfl
  try dsimp only [Js,Jr,Jq,Jl]
  repeat' (first|refine Ji ?_|refine JF a5 H6 ?_|(apply bE;first|refine JI a5 0 JC ?_|refine JI a5 1 JC ?_|refine JI a5 2 JC ?_|refine JI a5 3 JC ?_|refine JJ a5 0 JC ?_|refine JJ a5 1 JC ?_|refine JJ a5 2 JC ?_|refine JK a5 1 JA (by assumption) rfl ?_|refine JK a5 0 JA (by assumption) rfl ?_|fail)|fail)
  refine ar rfl (fun h=>?_) (fun h=>?_)
  ·have hal:a < lk.1.length:=by have:=Jy h;rw [hlkm] at this;omega
   generalize nT s a Ft.2=As at hal7 hst7 ⊢
   have hasm:(aX As.1).length=As.1.length:=aZ _
   unfold c8 at hst7
   repeat' (first|refine Ji ?_|refine am ?_|refine JF a5 H6 ?_)
   refine cC ?_
   generalize dr s 3 As.2=z at hst7 ⊢
   dsimp only [ret] at hst7
   repeat' (first|refine Ji ?_|refine JF a5 H6 ?_)
   refine ar rfl (fun hz=>?_) (fun hz=>?_)
   ·rw [if_pos (Jy hz)] at hst7
    repeat' (first|refine Ji ?_|refine JF a5 H6 ?_|refine bM a5 ?_|fail)
    refine bK a5 _ rfl rfl rfl rfl (eI (A:=[_,_])) (by simp [aZ];omega) (by simp [aZ];omega) rfl fun q'=>?_
    refine aI (aQ (eI (A:=[_,_])).symm) ?_
    repeat' (first|refine Ji ?_|refine JF a5 H6 ?_|(apply aS;refine aR ?_)|fail)
    exact aC (a+1,q') rfl ⟨by rw [Jv];rfl,by rw [hst7];dsimp only;rw [show aX (As.1++[(a:Int)])=aX As.1++[[aF (a:Int)]] from List.map_append ..];rfl,trivial⟩ (by dsimp only;omega) (by dsimp only;omega) (fun _ _ h=>by dsimp only;rw [hst7];dsimp only;rw [show aX (As.1++[(a:Int)])=aX As.1++[[aF (a:Int)]] from List.map_append ..];exact h)
   ·rw [if_neg (Jx hz)] at hst7
    repeat' (first|refine Ji ?_|refine JF a5 H6 ?_|(apply aS;refine aR ?_)|fail)
    exact aC (a+1,q7) rfl ⟨by rw [Jv];rfl,by rw [hst7];rfl,trivial⟩ (by dsimp only;omega) (by dsimp only;omega) (fun _ _ h=>by dsimp only;rw [hst7];exact h)
  have hal:a=lk.1.length:=by have:=Jx h;rw [hlkm] at this;omega
  subst hal
  clear hst7
  generalize nT s lk.1.length Ft.2=As at hal7 hstep ⊢
  dsimp only at hstep
  repeat' (first|refine Ji ?_|refine JF a5 H6 ?_)
  refine aI (bQ (t:=18) (c':= .imm 1 (aX As.1)) rfl fun σ v h=>VR.im h) ?_
  refine aI (bH (L':=[dR b s ⟨aF U,.vec q4 9 (gl.1.map bO),.imm 2 (ch.1.map eh),.imm 3 (lk.1.map bh),.vec q6 2 (Ft.1.map cm),.imm 4 (A.1.map cL),.imm 1 (rg.1.map bT),.imm 1 (fu.1.map dD),.imm 1 (aX cv.1)⟩ As.2,tB tb]++tok q6 121 2 (Ft.1.map cm).length) (List.Sublist.cons_cons _ (List.Sublist.cons_cons _ (List.sublist_append_right _ _)))) ?_
  refine cC ?_
  generalize dr s 2 As.2=z at hstep ⊢
  dsimp only [ret] at hstep
  repeat' (first|refine Ji ?_|refine JF a5 H6 ?_)
  refine ar rfl (fun hz=>?_) (fun hz=>?_)
  ·rw [if_pos (Jy hz)] at hstep
   repeat' (first|fail)
   refine bw 14 [(0,.v),(1,.v),(2,.v),(3,.v),(4,.v),(5,.l),(6,.v),(7,.v),(8,.v),(9,.v),(10,.v),(11,.v),(12,.v),(13,.e)] none ?_ trivial rfl (by kernel_rfl) (by kernel_rfl) (by kernel_rfl) bR (by kernel_rfl) rfl
   repeat' (first|refine aD ?_|refine b7 a5 ?_|(apply bV;refine cn a5 ?_)|refine ej a5 ?_|refine ca a5 0 rfl rfl rfl rfl (by first|trivial|rfl) ?_)
   refine f8 a5 _ rfl rfl rfl rfl (List.perm_append_comm (l₁:=[_,_])) (by simp;omega) (by simp;omega) (by first | trivial | rfl) fun q'=>?_
   refine JQ [2,3,16,17,225,238] H6 ?_
   refine aI (aQ (List.perm_append_comm (l₂:=[_,_]))) ?_
   repeat' (first|refine Ji ?_|refine JF a5 H6 ?_|(apply aS;refine aR ?_)|(apply aK;first|refine JH 6 a5 0 JE ?_|refine JH 6 a5 1 JE ?_|refine JH 6 a5 2 JE ?_|refine JG a5 0 JD ?_|refine JG a5 1 JD ?_|refine JG a5 2 JD ?_|refine JG a5 3 JD ?_|fail))
   exact aC (jf+1,q') rfl ⟨by rw [Jv];rfl,trivial⟩ (by dsimp only;omega) (by dsimp only;omega) (fun _ _ h=>by dsimp only;rw [hstep];dsimp only;rw [List.map_append];exact h)
  ·rw [if_neg (Jx hz)] at hstep
   repeat' (first|refine Ji ?_|refine JF a5 H6 ?_|(apply aS;refine aR ?_)|fail)
   exact aC (jf+1,q6) rfl ⟨by rw [Jv];rfl,trivial⟩ (by dsimp only;omega) (by dsimp only;omega) (fun _ _ h=>by dsimp only;rw [hstep];exact h)
 have hj8:jf=8:=by have:=Jx h;rw [hn8] at this;omega
 subst hj8
 clear hstep
 generalize e13:hZ s lk.1.length 8 lk.2=ft at hftl ⊢
 repeat' (first|refine Ji ?_|refine JF a5 H6 ?_|(apply bE;first|refine JI a5 0 JC ?_|refine JI a5 1 JC ?_|refine JI a5 2 JC ?_|refine JI a5 3 JC ?_|refine JJ a5 0 JC ?_|refine JJ a5 1 JC ?_|refine JJ a5 2 JC ?_|refine JK a5 1 JA (by assumption) rfl ?_|refine JK a5 0 JA (by assumption) rfl ?_|fail)|(apply aK;first|refine JH 6 a5 0 JE ?_|refine JH 6 a5 1 JE ?_|refine JH 6 a5 2 JE ?_|refine JG a5 0 JD ?_|refine JG a5 1 JD ?_|refine JG a5 2 JD ?_|refine JG a5 3 JD ?_|fail))
 have hv:kD s=⟨U,gl.1,ch.1,lk.1,ft.1,A.1,rg.1,fu.1,cv.1⟩:=by
  unfold kD Cl c8
  rw [e1]
  try dsimp only
  rw [e2]
  try dsimp only
  rw [hkk,Int.toNat_natCast,e3]
  try dsimp only
  rw [e4,e5]
  try dsimp only
  rw [hkk2,Int.toNat_natCast,e6]
  try dsimp only
  rw [e7]
  try dsimp only
  rw [hkk3,Int.toNat_natCast,e8]
  try dsimp only
  rw [e9]
  try dsimp only
  rw [hkk4,Int.toNat_natCast,e10]
  try dsimp only
  rw [e11]
  try dsimp only
  rw [e12]
  try dsimp only
  rw [e13,hU]
  rfl
 rw [hv]
 exact bk (bD 1 (cs':=cD ⟨U,gl.1,ch.1,lk.1,ft.1,A.1,rg.1,fu.1,cv.1⟩) rfl fun σ vs h=>mH.vrs (a:=[aF U,.vec q4 9 (gl.1.map bO),.imm 2 (ch.1.map eh),.imm 3 (lk.1.map bh),.vec q6 2 (ft.1.map cm),.imm 4 (A.1.map cL),.imm 1 (rg.1.map bT),.imm 1 (fu.1.map dD),.imm 1 (aX cv.1)]) (b:=cD ⟨U,gl.1,ch.1,lk.1,ft.1,A.1,rg.1,fu.1,cv.1⟩) ⟨cU.refl _,cU.im,cU.refl _,cU.refl _,cU.im,cU.refl _,cU.refl _,cU.refl _,cU.refl _,trivial⟩ h) (j4 a5 1 [] rfl rfl rfl rfl rfl (List.nil_sublist _) rfl)
end Go.Proofs.YtpmdfoaadejmkaaGreatDoor
