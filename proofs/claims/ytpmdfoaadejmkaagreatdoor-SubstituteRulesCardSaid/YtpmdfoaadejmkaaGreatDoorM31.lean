/-
  The maker: fonts.
-/
import Derived.Test.YtpmdfoaadejmkaaGreatDoorM30
namespace Go.Proofs.YtpmdfoaadejmkaaGreatDoor
open Go.RowKit
attribute [local irreducible] AT bJ AX AO Av Kt bi dq DA cG
variable (s:List Int) (hs:s.length≤1000000)
theorem DQ {a c:Nat×AB} {T:AL}:([a,c]++T).Perm (([a]++(T++[]))++[c]):=by
 rw [List.append_nil]
 exact List.Perm.cons a (List.perm_append_comm (l₁:=[c]))
theorem IS {A T:AL} {c:Nat×AB}:((A++T)++[c]).Perm ((A++[c])++T):=by
 rw [List.append_assoc,List.append_assoc]
 exact List.Perm.append_left _ List.perm_append_comm
theorem Bg:bU Tryz.prog 92 [] (.imm 1 (aW gc)):=by
 refine aN Tryz.func92 rfl Tryz.ntmps92 rfl fun B=>?_
 repeat' (first|refine L3 ?_|refine KG a4 HY ?_|refine bW a4 ?_|fail)
 exact KQ KA
theorem vS:bU Tryz.prog 94 [] (.imm 1 (Ee ga)):=by
 refine aN Tryz.func94 rfl Tryz.ntmps94 rfl fun B=>?_
 repeat' (first|refine L3 ?_|refine KG a4 HY ?_|refine bW a4 ?_|fail)
 exact KQ KA
theorem sO (k:Nat) (m:MS):(lA s k m).1.length=k:=by
 exact (c7.runs (fun i (l:List eN)=>l.length=i) k rfl fun i l _ h=>(c7.any _).bnd fun a _=>(c7.any _).bnd fun b _=>c7.ret (by simp [h])) m
theorem ya (k:Nat) (m:MS):(ix s k m).1.length=k:=by
 exact (c7.runs (fun i (l:List fk)=>l.length=i) k rfl fun i l _ h=>(c7.any _).bnd fun a _=>c7.ret (by simp [h])) m
theorem tl (x k:Nat) (m:MS):(lh s x k m).1.length=k:=by
 exact (c7.runs (fun i (l:List (List fk))=>l.length=i) k rfl fun i l _ h=>(c7.any _).bnd fun a _=>c7.ret (by simp [h])) m
theorem xn (k:Nat) (m:MS):(j3 s k m).1.length=k:=by
 exact (c7.runs (fun i (l:List (List gr))=>l.length=i) k rfl fun i l _ h=>(c7.any _).bnd fun a _=>(c7.any _).bnd fun b _=>c7.ret (by simp [h])) m
theorem Cs (k:Nat) (m:MS):(qS s k m).1.length=k:=by
 exact (c7.runs (fun i (l:List Int)=>l.length=i) k rfl fun i l _ h=>(c7.any _).bnd fun a _=>c7.ret (by simp [h])) m
theorem vz (R fn k:Nat) (m:MS):(gA s R fn k m).1.length=k:=by
 exact (c7.runs (fun i (l:List bD)=>l.length=i) k rfl fun i l _ h=>(c7.any _).bnd fun a _=>c7.ret (by simp [h])) m
theorem x7 (n:Int) (k:Nat) (m:MS):(ir s n k m).1.length≤k:=by
 exact (c7.runs (fun i (l:List gu)=>l.length≤i) k (Nat.le_refl _) fun i l _ h=>(c7.any _).bnd fun a _=>c7.ite (fun _=>(c7.any _).bnd fun b _=>c7.ret (by simp;omega)) fun _=>c7.ret (by omega)) m
theorem C5 (k:Nat) (m:MS):(oF s k m).1.length≤k:=by
 exact (c7.runs (fun i (l:List Int)=>l.length≤i) k (Nat.le_refl _) fun i l _ h=>(c7.any _).bnd fun a _=>c7.ret (by
  split
  ·simp;omega
  ·omega)) m
theorem xi (n k:Nat) (m:MS):(iu s n k m).1.length≤k:=by
 exact (c7.runs (fun i (l:List ck)=>l.length≤i) k (Nat.le_refl _) fun i l _ h=>(c7.any _).bnd fun a _=>(c7.any _).bnd fun b _=>c7.ret (by
  split
  ·simp;omega
  ·omega)) m
abbrev tB (tb:Nat):Nat×AB:=(tb,.box [aF 0,bX,bX,bX,bX,bX,bX,bX,bX] 32)
include hs
set_option maxHeartbeats 32000000 in
theorem Dl:bU Tryz.prog 32 [.imm 1 (aW s)] (df (lg s)):=by
 refine aN Tryz.func32 rfl Tryz.ntmps32 rfl fun B=>?_
 repeat' (first|refine L3 ?_|refine KG a4 HY ?_|refine te (d:=22) fun _=>?_|refine bq a4 fun _=>?_|refine bW a4 ?_|fail)
 rename_i tb b
 refine aP (aI (L':=[eo b s ⟨aF 0,bX,bX,bX,bX,bX,bX,bX,bX⟩ ⟨0,0⟩,tB tb]) (Lz _)) ?_
 refine aP (bG 0 (cs':=IL s ⟨aF 0,.vec none 9 [],.vec none 2 [],bX,.vec none 2 [],.vec none 4 [],.vec none 1 [],.vec none 1 [],.vec none 1 []⟩ ⟨0,0⟩) rfl fun σ vs h=>cI (k:=3) (cI (k:=4) (cI (k:=6) (cI (k:=7) (cI (k:=8) (cI (k:=9) (cI (k:=10) h rfl fun v hv=>d5 1 hv) rfl fun v hv=>d5 1 hv) rfl fun v hv=>d5 1 hv) rfl fun v hv=>d5 4 hv) rfl fun v hv=>d5 2 hv) rfl fun v hv=>d5 2 hv) rfl fun v hv=>d5 9 hv) ?_
 refine cL ?_
 have hu:=cB s hs 0 (n:=4) (by omega)
 have hu:0≤(dr s 4 ⟨0,0⟩).1∧(dr s 4 ⟨0,0⟩).1 < 4:=hu
 generalize e1:dr s 4 ⟨0,0⟩=u at hu ⊢
 have hul:(aW nf)[u.1.toNat]?=some [aF (nf.getD u.1.toNat 0)]:=bP (mj (by simp only [nf,List.length_cons,List.length_nil];omega) 0)
 generalize hU:nf.getD u.1.toNat 0=U at hul
 repeat' (first|refine L3 ?_|refine KG a4 HY ?_|(apply aQ;first|refine aO a4 ?_|refine aG a4 ?_)|(apply aM;first|refine KL 6 a4 0 KF ?_|refine KL 6 a4 1 KF ?_|refine KL 6 a4 2 KF ?_|refine KH a4 0 KE ?_|refine KH a4 1 KE ?_|refine KH a4 2 KE ?_|refine KH a4 3 KE ?_|fail))
 refine aP (aI (L':=[eo b s ⟨aF U,.vec none 9 [],.vec none 2 [],bX,.vec none 2 [],.vec none 4 [],.vec none 1 [],.vec none 1 [],.vec none 1 []⟩ u.2,tB tb]) (Lz _)) ?_
 refine cL ?_
 have hk:=cB s hs u.2.a (n:=3) (by omega)
 have hk:0≤(dr s 3 u.2).1∧(dr s 3 u.2).1 < 3:=hk
 generalize e2:dr s 3 u.2=k1 at hk ⊢
 obtain ⟨k,hkk⟩:∃k:Nat,k1.1=k:=⟨k1.1.toNat,by omega⟩
 rw [hkk]
 repeat' (first|refine L3 ?_|refine ak ?_|refine KG a4 HY ?_)
 refine aR [2,3,4] (α:=Nat×Option (Nat×Nat)) (fun x=>[(5,aF x.1)]) (fun x=>x.1≤k) (fun x=>[eo b s ⟨aF U,.vec none 9 [],.vec none 2 [],bX,.vec none 2 [],.vec x.2 4 ((lA s x.1 k1.2).1.map cX),.vec none 1 [],.vec none 1 [],.vec none 1 []⟩ (lA s x.1 k1.2).2,tB tb]++tok x.2 123 4 ((lA s x.1 k1.2).1.map cX).length) (fun x=>k - x.1) (0,none) rfl ⟨rfl,trivial⟩ (Nat.zero_le _) (fun _ _ h=>h) ?_
 rintro ⟨i,q⟩ hi
 dsimp only at hi ⊢
 have hal:=sO s i k1.2
 have hstep:lA s (i+1) k1.2=(cn (dr s 3) fun a=>cn (dr s 4) fun b=>ret ((lA s i k1.2).1++[(⟨jJ v7 i,0 - a * 100,0,b * 100⟩:eN)])) (lA s i k1.2).2:=rfl
 try dsimp only [Kr,Kq,Kp,Lv]
 repeat' (first|refine L3 ?_|refine KG a4 HY ?_)
 refine aw rfl (fun h=>?_) (fun h=>?_)
 ·have hil:i < k:=by have:=Ky h;omega
  generalize lA s i k1.2=A at hal hstep ⊢
  have halm:(A.1.map cX).length=A.1.length:=Ku ..
  repeat' (first|refine L3 ?_|refine ak ?_)
  refine bn 15 [(0,.v),(1,.v),(2,.v),(3,.v),(4,.v),(5,.v),(6,.v),(10,.v),(7,.e),(8,.v),(9,.v),(11,.e),(12,.v),(13,.v)] (some (14,.box _ 123)) ?_ ⟨_,rfl,rfl,fun _ _ _=>nk (eX a4 rfl) rfl⟩ rfl (by kernel_rfl) (by kernel_rfl) (by kernel_rfl) bI (by kernel_rfl) rfl
  repeat' (first|refine aB ?_|refine aX a4 ?_|(apply dz;refine eL ?_)|fail)
  refine Cw a4 ?_
  rw [vK i (by omega)]
  repeat' (first|refine aB ?_|refine eD a4 ?_|fail)
  refine yB a4 ?_
  rw [yS i (by omega)]
  repeat' (first|refine aB ?_|fail)
  refine Gy (hs:=Nat.le_of_ble_eq_true rfl) ?_
  rw [zQ]
  repeat' (first|refine aB ?_|refine aX a4 ?_|fail)
  refine tS ?_
  have ha:=cB s hs A.2.a (n:=3) (by omega)
  have ha:0≤(dr s 3 A.2).1∧(dr s 3 A.2).1 < 3:=ha
  unfold cn at hstep
  generalize dr s 3 A.2=a at ha hstep ⊢
  dsimp only at hstep
  repeat' (first|refine aB ?_|(apply dz;refine eL ?_)|fail)
  refine tS ?_
  have hc:=cB s hs a.2.a (n:=4) (by omega)
  have hc:0≤(dr s 4 a.2).1∧(dr s 4 a.2).1 < 4:=hc
  generalize dr s 4 a.2=c at hc hstep ⊢
  try dsimp only [ret] at hstep
  repeat' (first|refine aB ?_|refine aX a4 ?_|(apply dz;refine eL ?_)|fail)
  refine yF [2,3,4,5,6,52] (fun _=>_) (fun _=>rfl) rfl fun _=>?_
  rename_i ab
  refine aP (aI (IS (A:=[_,_]))) ?_
  repeat' (first|refine L3 ?_|(apply aM;first|refine KL 6 a4 0 KF ?_|refine KL 6 a4 1 KF ?_|refine KL 6 a4 2 KF ?_|refine KH a4 0 KE ?_|refine KH a4 1 KE ?_|refine KH a4 2 KE ?_|refine KH a4 3 KE ?_|fail))
  refine bn 9 [(0,.v),(1,.v),(2,.v),(3,.v),(4,.v),(5,.l),(6,.v),(7,.v),(8,.e)] none ?_ trivial rfl (by kernel_rfl) (by kernel_rfl) (by kernel_rfl) bI (by kernel_rfl) rfl
  repeat' (first|refine aB ?_|refine aX a4 ?_|refine eD a4 ?_|refine KY a4 0 KB (by first|trivial|rfl) ?_)
  refine fx a4 _ rfl rfl rfl rfl (List.perm_append_comm (l₁:=[_,_])) (by simp;omega) (by simp;omega) (by first | trivial | rfl) fun q'=>?_
  refine KU [2,3,4,5,53,61] HY ?_
  refine aP (aI (List.perm_append_comm (l₂:=[_,_]))) ?_
  repeat' (first|refine L3 ?_|refine KG a4 HY ?_|(apply aU;refine aT ?_)|(apply aM;first|refine KL 6 a4 0 KF ?_|refine KL 6 a4 1 KF ?_|refine KL 6 a4 2 KF ?_|refine KH a4 0 KE ?_|refine KH a4 1 KE ?_|refine KH a4 2 KE ?_|refine KH a4 3 KE ?_|fail))
  exact aD (i+1,q') rfl ⟨by rw [Kv];rfl,trivial⟩ (by dsimp only;omega) (by dsimp only;omega) (fun _ _ h=>by dsimp only;rw [hstep];dsimp only;rw [List.map_append];exact h)
 have hil:i=k:=by have:=Kx h;omega
 subst hil
 clear hstep
 have hal:=sO s i k1.2
 generalize e3:lA s i k1.2=A at hal ⊢
 repeat' (first|refine L3 ?_|refine KG a4 HY ?_)
 refine c8 (bG 0 rfl fun σ vs h=>cI (k:=7) (c':= .imm 4 (A.1.map cX)) h rfl fun v hv=>VR.im hv) ?_
 refine c8 (c6 (L':=[eo b s ⟨aF U,.vec none 9 [],.vec none 2 [],bX,.vec none 2 [],.imm 4 (A.1.map cX),.vec none 1 [],.vec none 1 [],.vec none 1 []⟩ A.2,tB tb]) (List.Sublist.cons_cons _ (List.Sublist.cons_cons _ (List.nil_sublist _)))) ?_
 refine tQ [2,3,4] ([eo b s ⟨aF U,.vec none 9 [],.vec none 2 [],bX,.vec none 2 [],.imm 4 (A.1.map cX),.imm 1 ((fR s i A.2).1.map bZ),.vec none 1 [],.vec none 1 []⟩ (fR s i A.2).2,tB tb]) rfl (fun Q' K=>?_) ?_
 ·refine aw rfl (fun h=>?_) (fun h=>?_)
  ·have hi0:¬i=0:=by have:=Ky h;omega
   repeat' (first|refine L3 ?_|refine KG a4 HY ?_)
   refine cL ?_
   have hn:=cB s hs A.2.a (n:=4) (by omega)
   have hn:0≤(dr s 4 A.2).1∧(dr s 4 A.2).1 < 4:=hn
   generalize e4:dr s 4 A.2=n1 at hn ⊢
   obtain ⟨n,hnn⟩:∃k:Nat,n1.1=k:=⟨n1.1.toNat,by omega⟩
   have hv:fR s i A.2=lh s i n n1.2:=by
    unfold fR
    rw [if_neg hi0]
    unfold cn
    rw [e4]
    dsimp only
    rw [hnn,Int.toNat_natCast]
   rw [hv] at K
   rw [hnn]
   repeat' (first|refine L3 ?_|refine ak ?_|refine KG a4 HY ?_)
   refine aR [2,3,4,7] (α:=Nat×Option (Nat×Nat)) (fun x=>[(8,aF x.1)]) (fun x=>x.1≤n) (fun x=>[eo b s ⟨aF U,.vec none 9 [],.vec none 2 [],bX,.vec none 2 [],.imm 4 (A.1.map cX),.vec x.2 1 ((lh s i x.1 n1.2).1.map bZ),.vec none 1 [],.vec none 1 []⟩ (lh s i x.1 n1.2).2,tB tb]++tok x.2 128 1 ((lh s i x.1 n1.2).1.map bZ).length) (fun x=>n - x.1) (0,none) rfl ⟨rfl,trivial⟩ (Nat.zero_le _) (fun _ _ h=>h) ?_
   rintro ⟨j,q⟩ hj
   dsimp only at hj ⊢
   have hrl:=tl s i j n1.2
   have hstep:lh s i (j+1) n1.2=((lh s i j n1.2).1++[(ix s i (lh s i j n1.2).2).1],(ix s i (lh s i j n1.2).2).2):=rfl
   try dsimp only [Kr,Kq,Kp,Lv]
   repeat' (first|refine L3 ?_|refine KG a4 HY ?_)
   refine aw rfl (fun h=>?_) (fun h=>?_)
   ·have hjn:j < n:=by have:=Ky h;omega
    generalize lh s i j n1.2=Rg at hrl hstep ⊢
    have hrlm:(Rg.1.map bZ).length=Rg.1.length:=Ku ..
    repeat' (first|refine L3 ?_|refine ak ?_|refine KG a4 HY ?_|refine bq a4 fun _=>?_|fail)
    rename_i rb
    refine c8 (bG 0 (cs':=[.vec none 3 []]) rfl fun σ vs h=>cI (k:=0) h rfl fun v hv=>d5 3 hv) ?_
    refine c8 (aI (List.perm_middle (l₁:=[_,_])).symm) ?_
    refine aR [2,3,4,7,8,9] (α:=Nat×Option (Nat×Nat)) (fun x=>[(10,aF x.1)]) (fun x=>x.1≤i) (fun x=>[eo b s ⟨aF U,.vec none 9 [],.vec none 2 [],bX,.vec none 2 [],.imm 4 (A.1.map cX),.vec q 1 (Rg.1.map bZ),.vec none 1 [],.vec none 1 []⟩ (ix s x.1 Rg.2).2,tB tb,(rb,.box [.vec x.2 3 ((ix s x.1 Rg.2).1.map l9)] 128)]++(tok x.2 125 3 ((ix s x.1 Rg.2).1.map l9).length++tok q 128 1 (Rg.1.map bZ).length)) (fun x=>i - x.1) (0,none) rfl ⟨rfl,trivial⟩ (Nat.zero_le _) (fun _ _ h=>h) ?_
    rintro ⟨a,qt⟩ ha
    dsimp only at ha ⊢
    have htl:=ya s a Rg.2
    have hstt:ix s (a+1) Rg.2=(cn (dr s 5) fun z=>ret ((ix s a Rg.2).1++[l4.getD z.toNat ⟨0,0,0⟩])) (ix s a Rg.2).2:=rfl
    try dsimp only [Kr,Kq,Kp,Lv]
    repeat' (first|refine L3 ?_|refine KG a4 HY ?_)
    refine aw rfl (fun h=>?_) (fun h=>?_)
    ·have hai:a < i:=by have:=Ky h;omega
     generalize ix s a Rg.2=Tn at htl hstt ⊢
     have htlm:(Tn.1.map l9).length=Tn.1.length:=Ku ..
     repeat' (first|refine L3 ?_|refine ak ?_)
     refine dC [.cell (rb,0,.vec qt 3 (Tn.1.map l9))] 13 [(0,.v),(1,.k),(2,.v),(3,.v),(4,.v),(5,.v),(6,.v),(7,.v),(8,.v),(9,.f),(10,.v),(11,.v),(12,.v)] none ?_ trivial rfl (by kernel_rfl) (by kernel_rfl) (by kernel_rfl) bI (by kernel_rfl) rfl
     repeat' (first|refine aB ?_|refine aX a4 ?_|fail)
     refine dY a4 0 rfl rfl rfl (bR 2 rfl rfl cj) (by first | trivial | rfl) ?_
     repeat' (first|refine aB ?_|refine aX a4 ?_|refine eD a4 ?_|fail)
     refine eT (bR 2 rfl rfl cj) ?_
     have hz:=cB s hs Tn.2.a (n:=5) (by omega)
     have hz:0≤(dr s 5 Tn.2).1∧(dr s 5 Tn.2).1 < 5:=hz
     unfold cn at hstt
     generalize dr s 5 Tn.2=z at hz hstt ⊢
     dsimp only [ret] at hstt
     have hzt:(l4.map l9)[z.1.toNat]?=some (l9 (l4.getD z.1.toNat ⟨0,0,0⟩)):=by
      rw [List.getElem?_map,mj (l:=l4) (i:=z.1.toNat) (by simp only [l4,List.length_cons,List.length_nil];omega) ⟨0,0,0⟩]
      rfl
     generalize l4.getD z.1.toNat ⟨0,0,0⟩=tn at hzt hstt
     repeat' (first|refine aB ?_|refine aX a4 ?_|(apply cm;refine cA a4 ?_)|refine eD a4 ?_|fail)
     refine KU [2,3,4,7,8,9,10,80,91] HY ?_
     repeat' (first|fail)
     refine bV a4 _ rfl rfl rfl rfl (eV (A:=[_,_,_])) (by simp;omega) (by simp;omega) rfl fun q'=>?_
     refine aP (aI (eV (A:=[_,_,_])).symm) ?_
     repeat' (first|refine L3 ?_|refine KG a4 HY ?_|(apply aU;refine aT ?_)|(apply aM;first|refine KL 6 a4 0 KF ?_|refine KL 6 a4 1 KF ?_|refine KL 6 a4 2 KF ?_|refine KH a4 0 KE ?_|refine KH a4 1 KE ?_|refine KH a4 2 KE ?_|refine KH a4 3 KE ?_|fail))
     exact aD (a+1,q') rfl ⟨by rw [Kv];rfl,trivial⟩ (by dsimp only;omega) (by dsimp only;omega) (fun _ _ h=>by dsimp only;rw [hstt];dsimp only;rw [List.map_append];exact h)
    have hai:a=i:=by have:=Kx h;omega
    subst hai
    clear hstt htl
    generalize ix s a Rg.2=Tn at hstep ⊢
    repeat' (first|refine L3 ?_|fail)
    refine c8 (bG 2 (cs':=[.imm 3 (Tn.1.map l9)]) rfl fun σ vs h=>cI (k:=0) h rfl fun v hv=>VR.im hv) ?_
    refine c8 (c6 (L':=[eo b s ⟨aF U,.vec none 9 [],.vec none 2 [],bX,.vec none 2 [],.imm 4 (A.1.map cX),.vec q 1 (Rg.1.map bZ),.vec none 1 [],.vec none 1 []⟩ Tn.2,tB tb,(rb,.box (bZ Tn.1) 128)]++tok q 128 1 (Rg.1.map bZ).length) (List.Sublist.cons_cons _ (List.Sublist.cons_cons _ (List.Sublist.cons_cons _ (List.sublist_append_right _ _))))) ?_
    refine bn 9 [(0,.v),(1,.v),(2,.v),(3,.v),(4,.v),(5,.l),(6,.l),(7,.v),(8,.e)] none ?_ trivial rfl (by kernel_rfl) (by kernel_rfl) (by kernel_rfl) bI (by kernel_rfl) rfl
    repeat' (first|refine aB ?_|refine aX a4 ?_|refine KY a4 0 KB (by first|trivial|rfl) ?_)
    refine qc a4 2 rfl rfl rfl rfl (by first | trivial | rfl) ?_
    repeat' (first|refine aB ?_|refine eD a4 ?_|fail)
    refine fx a4 _ rfl rfl rfl rfl (List.perm_append_comm (l₁:=[_,_,_])) (by simp;omega) (by simp;omega) (by first | trivial | rfl) fun q'=>?_
    refine KU [2,3,4,7,8,94,102] HY ?_
    refine aP (aI (List.perm_append_comm (l₂:=[_,_,_]))) ?_
    repeat' (first|refine L3 ?_|refine KG a4 HY ?_|(apply aU;refine aT ?_)|(apply aM;first|refine KL 6 a4 0 KF ?_|refine KL 6 a4 1 KF ?_|refine KL 6 a4 2 KF ?_|refine KH a4 0 KE ?_|refine KH a4 1 KE ?_|refine KH a4 2 KE ?_|refine KH a4 3 KE ?_|fail))
    exact aD (j+1,q') rfl ⟨by rw [Kv];rfl,trivial⟩ (by dsimp only;omega) (by dsimp only;omega) (fun _ _ h=>by dsimp only;rw [hstep];dsimp only;rw [List.map_append];exact h.sublist (List.Sublist.cons_cons _ (List.Sublist.cons_cons _ (List.sublist_cons_self ..))))
   have hjn:j=n:=by have:=Kx h;omega
   subst hjn
   generalize lh s i j n1.2=Rg at K ⊢
   repeat' (first|refine L3 ?_|fail)
   refine bj (bG 0 rfl fun σ vs h=>cI (k:=8) (c':= .imm 1 (Rg.1.map bZ)) h rfl fun v hv=>VR.im hv) ?_
   refine bj (c6 (L':=[eo b s ⟨aF U,.vec none 9 [],.vec none 2 [],bX,.vec none 2 [],.imm 4 (A.1.map cX),.imm 1 (Rg.1.map bZ),.vec none 1 [],.vec none 1 []⟩ Rg.2,tB tb]) (List.Sublist.cons_cons _ (List.Sublist.cons_cons _ (List.nil_sublist _)))) ?_
   exact K _ rfl
  ·have hi0:i=0:=by have:=Kx h;omega
   have hv:fR s i A.2=([],A.2):=by
    unfold fR
    rw [if_pos hi0]
    rfl
   rw [hv] at K
   repeat' (first|refine L3 ?_|fail)
   refine bj (bG 0 rfl fun σ vs h=>cI (k:=8) (c':= .imm 1 []) h rfl fun v hv=>VR.im hv) ?_
   exact K _ rfl
 generalize e4:fR s i A.2=rg
 repeat' (first|refine L3 ?_|refine KG a4 HY ?_)
 refine cL ?_
 have hk2:=cB s hs rg.2.a (n:=3) (by omega)
 have hk2:0≤(dr s 3 rg.2).1∧(dr s 3 rg.2).1 < 3:=hk2
 generalize e5:dr s 3 rg.2=k2 at hk2 ⊢
 obtain ⟨k',hkk2⟩:∃k:Nat,k2.1=k:=⟨k2.1.toNat,by omega⟩
 rw [hkk2]
 repeat' (first|refine L3 ?_|refine ak ?_|refine KG a4 HY ?_)
 refine aR [2,3,4] (α:=Nat×Option (Nat×Nat)) (fun x=>[(11,aF x.1)]) (fun x=>x.1≤k') (fun x=>[eo b s ⟨aF U,.vec none 9 [],.vec none 2 [],bX,.vec none 2 [],.imm 4 (A.1.map cX),.imm 1 (rg.1.map bZ),.vec x.2 1 ((j3 s x.1 k2.2).1.map dU),.vec none 1 []⟩ (j3 s x.1 k2.2).2,tB tb]++tok x.2 74 1 ((j3 s x.1 k2.2).1.map dU).length) (fun x=>k' - x.1) (0,none) rfl ⟨rfl,trivial⟩ (Nat.zero_le _) (fun _ _ h=>h) ?_
 rintro ⟨j,q2⟩ hj
 dsimp only at hj ⊢
 have hfl:=xn s j k2.2
 have hstep:j3 s (j+1) k2.2=(cn (ie 0) fun _=>cn (nH s 6 j 4) fun h=>ret ((j3 s j k2.2).1++[h])) (j3 s j k2.2).2:=rfl
 try dsimp only [Kr,Kq,Kp,Lv]
 repeat' (first|refine L3 ?_|refine KG a4 HY ?_)
 refine aw rfl (fun h=>?_) (fun h=>?_)
 ·have hjk:j < k':=by have:=Ky h;omega
  generalize j3 s j k2.2=Fu at hfl hstep ⊢
  have hflm:(Fu.1.map dU).length=Fu.1.length:=Ku ..
  unfold cn at hstep
  repeat' (first|refine L3 ?_|refine ak ?_|refine KG a4 HY ?_|(apply aM;first|refine KL 6 a4 0 KF ?_|refine KL 6 a4 1 KF ?_|refine KL 6 a4 2 KF ?_|refine KH a4 0 KE ?_|refine KH a4 1 KE ?_|refine KH a4 2 KE ?_|refine KH a4 3 KE ?_|fail))
  refine c8 (aI (L':=[eo b s ⟨aF U,.vec none 9 [],.vec none 2 [],bX,.vec none 2 [],.imm 4 (A.1.map cX),.imm 1 (rg.1.map bZ),.vec q2 1 (Fu.1.map dU),.vec none 1 []⟩ (ie 0 Fu.2).2,tB tb]++tok q2 74 1 (Fu.1.map dU).length) (Lz _)) ?_
  generalize (ie 0 Fu.2).2=w at hstep ⊢
  dsimp only at hstep
  refine dC [.cell (b,9,.vec q2 1 (Fu.1.map dU))] 11 [(0,.v),(1,.v),(2,.v),(3,.v),(4,.v),(5,.k),(6,.v),(7,.v),(8,.f),(9,.v),(10,.e)] none ?_ trivial rfl (by kernel_rfl) (by kernel_rfl) (by kernel_rfl) bI (by kernel_rfl) rfl
  repeat' (first|refine aB ?_|refine aX a4 ?_|fail)
  refine dY a4 0 rfl rfl rfl (bR 0 rfl rfl cj) (by first | trivial | rfl) ?_
  repeat' (first|refine aB ?_|refine aX a4 ?_|fail)
  refine sR (t5 s hs _ (n:=6) (fn:=(j:Int)) (most:=4) (by omega) (by omega) (by omega)) (bR 0 rfl rfl cj) ?_
  generalize nH s 6 j 4 w=hi at hstep ⊢
  try dsimp only [ret] at hstep
  unfold k6
  repeat' (first|refine aB ?_|refine eD a4 ?_|fail)
  refine fx a4 _ rfl rfl rfl rfl (List.perm_append_comm (l₁:=[_,_])) (by simp;omega) (by simp;omega) (by first | trivial | rfl) fun q'=>?_
  refine KU [2,3,4,11,116,126] HY ?_
  refine aP (aI (List.perm_append_comm (l₂:=[_,_]))) ?_
  repeat' (first|refine L3 ?_|refine KG a4 HY ?_|(apply aU;refine aT ?_)|(apply aM;first|refine KL 6 a4 0 KF ?_|refine KL 6 a4 1 KF ?_|refine KL 6 a4 2 KF ?_|refine KH a4 0 KE ?_|refine KH a4 1 KE ?_|refine KH a4 2 KE ?_|refine KH a4 3 KE ?_|fail))
  exact aD (j+1,q') rfl ⟨by rw [Kv];rfl,trivial⟩ (by dsimp only;omega) (by dsimp only;omega) (fun _ _ h=>by dsimp only;rw [hstep];dsimp only;rw [List.map_append];exact h)
 have hjk:j=k':=by have:=Kx h;omega
 subst hjk
 clear hstep
 generalize e6:j3 s j k2.2=fu at hfl ⊢
 repeat' (first|refine L3 ?_|refine KG a4 HY ?_)
 refine aP (bG 0 rfl fun σ vs h=>cI (k:=9) (c':= .imm 1 (fu.1.map dU)) h rfl fun v hv=>VR.im hv) ?_
 refine aP (c6 (L':=[eo b s ⟨aF U,.vec none 9 [],.vec none 2 [],bX,.vec none 2 [],.imm 4 (A.1.map cX),.imm 1 (rg.1.map bZ),.imm 1 (fu.1.map dU),.vec none 1 []⟩ fu.2,tB tb]) (List.Sublist.cons_cons _ (List.Sublist.cons_cons _ (List.nil_sublist _)))) ?_
 refine cL ?_
 have hk3:=cB s hs fu.2.a (n:=4) (by omega)
 have hk3:0≤(dr s 4 fu.2).1∧(dr s 4 fu.2).1 < 4:=hk3
 generalize e7:dr s 4 fu.2=k3 at hk3 ⊢
 obtain ⟨k'',hkk3⟩:∃k:Nat,k3.1=k:=⟨k3.1.toNat,by omega⟩
 rw [hkk3]
 repeat' (first|refine L3 ?_|refine ak ?_|refine KG a4 HY ?_)
 refine aR [2,3,4] (α:=Nat×Option (Nat×Nat)) (fun x=>[(12,aF x.1)]) (fun x=>x.1≤k'') (fun x=>[eo b s ⟨aF U,.vec none 9 [],.vec none 2 [],bX,.vec none 2 [],.imm 4 (A.1.map cX),.imm 1 (rg.1.map bZ),.imm 1 (fu.1.map dU),.vec x.2 1 (aW (qS s x.1 k3.2).1)⟩ (qS s x.1 k3.2).2,tB tb]++tok x.2 3 1 (aW (qS s x.1 k3.2).1).length) (fun x=>k'' - x.1) (0,none) rfl ⟨rfl,trivial⟩ (Nat.zero_le _) (fun _ _ h=>h) ?_
 rintro ⟨jc,q3⟩ hjc
 dsimp only at hjc ⊢
 have hcl:=Cs s jc k3.2
 have hstep:qS s (jc+1) k3.2=(cn (dr s 500) fun z=>ret ((qS s jc k3.2).1++[z - 100])) (qS s jc k3.2).2:=rfl
 try dsimp only [Kr,Kq,Kp,Lv]
 repeat' (first|refine L3 ?_|refine KG a4 HY ?_)
 refine aw rfl (fun h=>?_) (fun h=>?_)
 ·have hjk:jc < k'':=by have:=Ky h;omega
  generalize qS s jc k3.2=C at hcl hstep ⊢
  have hclm:(aW C.1).length=C.1.length:=bb _
  unfold cn at hstep
  repeat' (first|refine L3 ?_|refine ak ?_)
  refine dC [.cell (b,10,.vec q3 1 (aW C.1))] 11 [(0,.v),(1,.v),(2,.v),(3,.v),(4,.v),(5,.k),(6,.v),(7,.f),(8,.v),(9,.v),(10,.e)] none ?_ trivial rfl (by kernel_rfl) (by kernel_rfl) (by kernel_rfl) bI (by kernel_rfl) rfl
  repeat' (first|refine aB ?_|refine aX a4 ?_|fail)
  refine dY a4 0 rfl rfl rfl (bR 0 rfl rfl cj) (by first | trivial | rfl) ?_
  repeat' (first|refine aB ?_|refine aX a4 ?_|fail)
  refine eT (bR 0 rfl rfl cj) ?_
  have hz:=cB s hs C.2.a (n:=500) (by omega)
  have hz:0≤(dr s 500 C.2).1∧(dr s 500 C.2).1 < 500:=hz
  generalize dr s 500 C.2=z at hz hstep ⊢
  try dsimp only [ret] at hstep
  repeat' (first|refine aB ?_|(apply dz;refine eL ?_)|refine eD a4 ?_|fail)
  refine fx a4 _ rfl rfl rfl rfl (List.perm_append_comm (l₁:=[_,_])) (by simp [bb];omega) (by simp [bb];omega) (by first | trivial | rfl) fun q'=>?_
  refine KU [2,3,4,12,137,147] HY ?_
  refine aP (aI (List.perm_append_comm (l₂:=[_,_]))) ?_
  repeat' (first|refine L3 ?_|refine KG a4 HY ?_|(apply aU;refine aT ?_)|(apply aM;first|refine KL 6 a4 0 KF ?_|refine KL 6 a4 1 KF ?_|refine KL 6 a4 2 KF ?_|refine KH a4 0 KE ?_|refine KH a4 1 KE ?_|refine KH a4 2 KE ?_|refine KH a4 3 KE ?_|fail))
  exact aD (jc+1,q') rfl ⟨by rw [Kv];rfl,trivial⟩ (by dsimp only;omega) (by dsimp only;omega) (fun _ _ h=>by dsimp only;rw [hstep];dsimp only;rw [show aW (C.1++[z.1 - 100])=aW C.1++[[aF (z.1 - 100)]] from List.map_append ..];exact h)
 have hjk:jc=k'':=by have:=Kx h;omega
 subst hjk
 clear hstep
 generalize e8:qS s jc k3.2=cv at hcl ⊢
 repeat' (first|refine L3 ?_|refine KG a4 HY ?_)
 refine aP (bG 0 rfl fun σ vs h=>cI (k:=10) (c':= .imm 1 (aW cv.1)) h rfl fun v hv=>VR.im hv) ?_
 refine aP (c6 (L':=[eo b s ⟨aF U,.vec none 9 [],.vec none 2 [],bX,.vec none 2 [],.imm 4 (A.1.map cX),.imm 1 (rg.1.map bZ),.imm 1 (fu.1.map dU),.imm 1 (aW cv.1)⟩ cv.2,tB tb]) (List.Sublist.cons_cons _ (List.Sublist.cons_cons _ (List.nil_sublist _)))) ?_
 refine cL ?_
 have hk4:=cB s hs cv.2.a (n:=9) (by omega)
 have hk4:0≤(dr s 9 cv.2).1∧(dr s 9 cv.2).1 < 9:=hk4
 generalize e9:dr s 9 cv.2=k4 at hk4 ⊢
 obtain ⟨n,hkk4⟩:∃k:Nat,2+k4.1=k:=⟨(2+k4.1).toNat,by omega⟩
 repeat' (first|refine L3 ?_|refine ak ?_|refine KG a4 HY ?_|(apply aU;refine aT ?_)|fail)
 rw [hkk4]
 have hrgl:(rg.1.map bZ).length=rg.1.length:=Ku ..
 have hful:(fu.1.map dU).length=fu.1.length:=Ku ..
 have hrg3:rg.1.length≤1000:=by
  have hR:c7 (fR s A.1.length) fun l=>l.length≤3:=c7.ite (fun _=>c7.ret (Nat.zero_le _)) fun _=>(d3 s (by omega)).bnd fun n hn m=>by rw [tl];omega
  have:=hR A.2
  rw [hal] at this
  rw [←e4]
  omega
 refine aR [2,3,4] (α:=Nat×Option (Nat×Nat)) (fun x=>[(13,aF x.1)]) (fun x=>x.1≤n) (fun x=>[eo b s ⟨aF U,.vec x.2 9 ((gA s rg.1.length fu.1.length x.1 k4.2).1.map bT),.vec none 2 [],bX,.vec none 2 [],.imm 4 (A.1.map cX),.imm 1 (rg.1.map bZ),.imm 1 (fu.1.map dU),.imm 1 (aW cv.1)⟩ (gA s rg.1.length fu.1.length x.1 k4.2).2,tB tb]++tok x.2 76 9 ((gA s rg.1.length fu.1.length x.1 k4.2).1.map bT).length) (fun x=>n - x.1) (0,none) rfl ⟨rfl,trivial⟩ (Nat.zero_le _) (fun _ _ h=>h) ?_
 rintro ⟨jg,q4⟩ hjg
 dsimp only at hjg ⊢
 have hgl:=vz s rg.1.length fu.1.length jg k4.2
 have hstep:gA s rg.1.length fu.1.length (jg+1) k4.2=(cn (kO s rg.1.length fu.1.length jg) fun g=>ret ((gA s rg.1.length fu.1.length jg k4.2).1++[g])) (gA s rg.1.length fu.1.length jg k4.2).2:=rfl
 try dsimp only [Kr,Kq,Kp,Lv]
 repeat' (first|refine L3 ?_|refine KG a4 HY ?_)
 refine aw rfl (fun h=>?_) (fun h=>?_)
 ·have hjn:jg < n:=by have:=Ky h;omega
  generalize gA s rg.1.length fu.1.length jg k4.2=Gs at hgl hstep ⊢
  have hglm:(Gs.1.map bT).length=Gs.1.length:=Ku ..
  unfold cn at hstep
  repeat' (first|refine L3 ?_|refine ak ?_|refine KG a4 HY ?_)
  refine b6 ([eo b s ⟨aF U,.vec q4 9 (Gs.1.map bT),.vec none 2 [],bX,.vec none 2 [],.imm 4 (A.1.map cX),.imm 1 (rg.1.map bZ),.imm 1 (fu.1.map dU),.imm 1 (aW cv.1)⟩ Gs.2]++(tok q4 76 9 (Gs.1.map bT).length++[])) [tB tb] (CV s hs ⟨aF U,.vec q4 9 (Gs.1.map bT),.vec none 2 [],bX,.vec none 2 [],.imm 4 (A.1.map cX),.imm 1 (rg.1.map bZ),.imm 1 (fu.1.map dU),.imm 1 (aW cv.1)⟩ rfl rfl rfl rg.1.length fu.1.length jg hrgl hful (by omega) (by omega) (by omega) (by omega) b Gs.2) rfl rfl DQ rfl fun c L1 ⟨q',hL1⟩=>?_
  subst hL1
  refine aP (aI DQ.symm) ?_
  generalize kO s rg.1.length fu.1.length jg Gs.2=g at hstep ⊢
  try dsimp only [ret] at hstep
  repeat' (first|refine L3 ?_|refine KG a4 HY ?_|(apply aU;refine aT ?_)|fail)
  exact aD (jg+1,q') rfl ⟨by rw [Kv];rfl,trivial⟩ (by dsimp only;omega) (by dsimp only;omega) (fun _ _ h=>by dsimp only;rw [hstep];dsimp only;rw [List.map_append];exact h)
 have hjn:jg=n:=by have:=Kx h;omega
 subst hjn
 clear hstep
 generalize e10:gA s rg.1.length fu.1.length jg k4.2=gl at hgl ⊢
 have hglm:(gl.1.map bT).length=gl.1.length:=Ku ..
 repeat' (first|refine L3 ?_|fail)
 refine bv (hc:=⟨Bg⟩) ?_
 refine aP (c6 (L':=[eo b s ⟨aF U,.vec q4 9 (gl.1.map bT),.vec none 2 [],bX,.vec none 2 [],.imm 4 (A.1.map cX),.imm 1 (rg.1.map bZ),.imm 1 (fu.1.map dU),.imm 1 (aW cv.1)⟩ gl.2,tB tb]) (List.Sublist.cons_cons _ (List.Sublist.cons_cons _ (List.nil_sublist _)))) ?_
 repeat' (first|refine L3 ?_|refine ak ?_|refine KG a4 HY ?_)
 have hr16:(aW gc).length=16:=rfl
 refine aR [2,3,14] (α:=Nat×Option (Nat×Nat)) (fun x=>[(15,aF x.1)]) (fun x=>x.1≤16) (fun x=>[eo b s ⟨aF U,.vec q4 9 (gl.1.map bT),.vec x.2 2 ((ir s gl.1.length x.1 gl.2).1.map eB),bX,.vec none 2 [],.imm 4 (A.1.map cX),.imm 1 (rg.1.map bZ),.imm 1 (fu.1.map dU),.imm 1 (aW cv.1)⟩ (ir s gl.1.length x.1 gl.2).2,tB tb]++tok x.2 119 2 ((ir s gl.1.length x.1 gl.2).1.map eB).length) (fun x=>16 - x.1) (0,none) rfl ⟨rfl,trivial⟩ (Nat.zero_le _) (fun _ _ h=>h) ?_
 rintro ⟨jr,q5⟩ hjr
 dsimp only at hjr ⊢
 have hcl2:=x7 s gl.1.length jr gl.2
 have hstep:ir s gl.1.length (jr+1) gl.2=(cn (dr s 4) fun z=>if 0 < z then cn (dr s gl.1.length) fun g=>ret ((ir s gl.1.length jr gl.2).1++[(⟨gc.getD jr 0,g⟩:gu)]) else ret (ir s gl.1.length jr gl.2).1) (ir s gl.1.length jr gl.2).2:=rfl
 try dsimp only [Kr,Kq,Kp,Lv]
 repeat' (first|refine L3 ?_|refine KG a4 HY ?_)
 refine aw rfl (fun h=>?_) (fun h=>?_)
 ·have hj16:jr < 16:=by have:=Ky h;rw [hr16] at this;omega
  have hrn:(aW gc)[jr]?=some [aF (gc.getD jr 0)]:=bP (mj hj16 0)
  generalize gc.getD jr 0=rn at hrn hstep
  generalize ir s gl.1.length jr gl.2=Ch at hcl2 hstep ⊢
  have hchm:(Ch.1.map eB).length=Ch.1.length:=Ku ..
  unfold cn at hstep
  repeat' (first|refine L3 ?_|refine ak ?_|refine KG a4 HY ?_)
  refine cL ?_
  generalize dr s 4 Ch.2=z at hstep ⊢
  dsimp only at hstep
  repeat' (first|refine L3 ?_|refine KG a4 HY ?_)
  refine aw rfl (fun hz=>?_) (fun hz=>?_)
  ·rw [if_pos (Ky hz)] at hstep
   repeat' (first|fail)
   refine dC [.cell (b,4,.vec q5 2 (Ch.1.map eB))] 21 [(0,.v),(1,.v),(2,.v),(3,.v),(4,.v),(5,.k),(6,.v),(7,.v),(8,.v),(9,.v),(10,.v),(11,.v),(12,.v),(13,.v),(14,.v),(15,.l),(16,.v),(17,.f),(18,.v),(19,.v),(20,.e)] none ?_ trivial rfl (by kernel_rfl) (by kernel_rfl) (by kernel_rfl) bI (by kernel_rfl) rfl
   repeat' (first|refine aB ?_|refine aX a4 ?_|fail)
   refine dY a4 0 rfl rfl rfl (bR 0 rfl rfl cj) (by first | trivial | rfl) ?_
   repeat' (first|refine aB ?_|refine aX a4 ?_|(apply cm;refine cA a4 ?_)|refine KY a4 0 KB (by first|trivial|rfl) ?_)
   rw [hglm]
   refine eT (bR 0 rfl rfl cj) ?_
   generalize dr s gl.1.length z.2=g at hstep ⊢
   try dsimp only [ret] at hstep
   repeat' (first|refine aB ?_|refine aX a4 ?_|refine eD a4 ?_|fail)
   refine fx a4 _ rfl rfl rfl rfl (List.perm_append_comm (l₁:=[_,_])) (by simp;omega) (by simp;omega) (by first | trivial | rfl) fun q'=>?_
   refine KU [2,3,14,15,172,192] HY ?_
   refine aP (aI (List.perm_append_comm (l₂:=[_,_]))) ?_
   repeat' (first|refine L3 ?_|refine KG a4 HY ?_|(apply aU;refine aT ?_)|(apply aM;first|refine KL 6 a4 0 KF ?_|refine KL 6 a4 1 KF ?_|refine KL 6 a4 2 KF ?_|refine KH a4 0 KE ?_|refine KH a4 1 KE ?_|refine KH a4 2 KE ?_|refine KH a4 3 KE ?_|fail))
   exact aD (jr+1,q') rfl ⟨by rw [Kv];rfl,trivial⟩ (by dsimp only;omega) (by dsimp only;omega) (fun _ _ h=>by dsimp only;rw [hstep];dsimp only;rw [List.map_append];exact h)
  ·rw [if_neg (Kx hz)] at hstep
   try dsimp only [ret] at hstep
   repeat' (first|refine L3 ?_|refine KG a4 HY ?_|(apply aU;refine aT ?_)|fail)
   exact aD (jr+1,q5) rfl ⟨by rw [Kv];rfl,trivial⟩ (by dsimp only;omega) (by dsimp only;omega) (fun _ _ h=>by dsimp only;rw [hstep];exact h)
 have hj16:jr=16:=by have:=Kx h;rw [hr16] at this;omega
 subst hj16
 clear hstep
 generalize e11:ir s gl.1.length 16 gl.2=ch at hcl2 ⊢
 repeat' (first|refine L3 ?_|refine KG a4 HY ?_)
 refine aP (bG 0 rfl fun σ vs h=>cI (k:=4) (c':= .imm 2 (ch.1.map eB)) h rfl fun v hv=>VR.im hv) ?_
 refine aP (c6 (L':=[eo b s ⟨aF U,.vec q4 9 (gl.1.map bT),.imm 2 (ch.1.map eB),bX,.vec none 2 [],.imm 4 (A.1.map cX),.imm 1 (rg.1.map bZ),.imm 1 (fu.1.map dU),.imm 1 (aW cv.1)⟩ ch.2]++[tB tb]) (List.Sublist.cons_cons _ (List.Sublist.cons_cons _ (List.nil_sublist _)))) ?_
 refine b6 [eo b s ⟨aF U,.vec q4 9 (gl.1.map bT),.imm 2 (ch.1.map eB),bX,.vec none 2 [],.imm 4 (A.1.map cX),.imm 1 (rg.1.map bZ),.imm 1 (fu.1.map dU),.imm 1 (aW cv.1)⟩ ch.2] [tB tb] (xG s hs ⟨aF U,.vec q4 9 (gl.1.map bT),.imm 2 (ch.1.map eB),bX,.vec none 2 [],.imm 4 (A.1.map cX),.imm 1 (rg.1.map bZ),.imm 1 (fu.1.map dU),.imm 1 (aW cv.1)⟩ rfl rfl gl.1.length hglm (by omega) b ch.2) rfl rfl (Lz _) rfl fun c L1 hL1=>?_
 subst hL1
 have hlk6:=(pz s (n:=gl.1.length) (by omega) ch.2).len
 generalize e12:j6 s gl.1.length ch.2=lk at hlk6 ⊢
 have hlkm:(lk.1.map bw).length=lk.1.length:=Ku ..
 repeat' (first|refine L3 ?_|fail)
 refine bv (hc:=⟨vS⟩) ?_
 refine aP (aI (L':=[eo b s ⟨aF U,.vec q4 9 (gl.1.map bT),.imm 2 (ch.1.map eB),.imm 3 (lk.1.map bw),.vec none 2 [],.imm 4 (A.1.map cX),.imm 1 (rg.1.map bZ),.imm 1 (fu.1.map dU),.imm 1 (aW cv.1)⟩ lk.2,tB tb]) (Lz _)) ?_
 repeat' (first|refine L3 ?_|refine ak ?_|refine KG a4 HY ?_)
 have hn8:(Ee ga).length=8:=rfl
 refine aR [2,3,16] (α:=Nat×Option (Nat×Nat)) (fun x=>[(17,aF x.1)]) (fun x=>x.1≤8) (fun x=>[eo b s ⟨aF U,.vec q4 9 (gl.1.map bT),.imm 2 (ch.1.map eB),.imm 3 (lk.1.map bw),.vec x.2 2 ((iu s lk.1.length x.1 lk.2).1.map cy),.imm 4 (A.1.map cX),.imm 1 (rg.1.map bZ),.imm 1 (fu.1.map dU),.imm 1 (aW cv.1)⟩ (iu s lk.1.length x.1 lk.2).2,tB tb]++tok x.2 121 2 ((iu s lk.1.length x.1 lk.2).1.map cy).length) (fun x=>8 - x.1) (0,none) rfl ⟨rfl,trivial⟩ (Nat.zero_le _) (fun _ _ h=>h) ?_
 rintro ⟨jf,q6⟩ hjf
 dsimp only at hjf ⊢
 have hftl:=xi s lk.1.length jf lk.2
 have hstep:iu s lk.1.length (jf+1) lk.2=(cn (oF s lk.1.length) fun r=>cn (dr s 2) fun z=>ret (if z=0 then (iu s lk.1.length jf lk.2).1++[(⟨ga.getD jf ByteArray.empty,r⟩:ck)] else (iu s lk.1.length jf lk.2).1)) (iu s lk.1.length jf lk.2).2:=rfl
 try dsimp only [Kr,Kq,Kp,Lv]
 repeat' (first|refine L3 ?_|refine KG a4 HY ?_)
 refine aw rfl (fun h=>?_) (fun h=>?_)
 ·have hj8:jf < 8:=by have:=Ky h;rw [hn8] at this;omega
  have hnm:(Ee ga)[jf]?=some [wE (ga.getD jf ByteArray.empty)]:=Ef (mj hj8 ByteArray.empty)
  generalize ga.getD jf ByteArray.empty=nm at hnm hstep
  generalize iu s lk.1.length jf lk.2=Ft at hftl hstep ⊢
  have hftm:(Ft.1.map cy).length=Ft.1.length:=Ku ..
  unfold cn at hstep
  repeat' (first|refine L3 ?_|refine ak ?_|refine KG a4 HY ?_)
  refine c8 (bS (t:=18) (c':= .vec none 1 []) rfl fun σ v h=>d5 1 h) ?_
  refine aR [2,3,16,17] (α:=Nat×Option (Nat×Nat)) (fun x=>[(19,aF x.1),(18,.vec x.2 1 (aW (oF s x.1 Ft.2).1))]) (fun x=>x.1≤lk.1.length) (fun x=>[eo b s ⟨aF U,.vec q4 9 (gl.1.map bT),.imm 2 (ch.1.map eB),.imm 3 (lk.1.map bw),.vec q6 2 (Ft.1.map cy),.imm 4 (A.1.map cX),.imm 1 (rg.1.map bZ),.imm 1 (fu.1.map dU),.imm 1 (aW cv.1)⟩ (oF s x.1 Ft.2).2,tB tb]++(tok x.2 3 1 (aW (oF s x.1 Ft.2).1).length++tok q6 121 2 (Ft.1.map cy).length)) (fun x=>lk.1.length - x.1) (0,none) rfl ⟨rfl,rfl,trivial⟩ (Nat.zero_le _) (fun _ _ h=>h) ?_
  rintro ⟨a,q7⟩ ha
  dsimp only at ha ⊢
  have hal7:=C5 s a Ft.2
  have hst7:oF s (a+1) Ft.2=(cn (dr s 3) fun z=>ret (if z=0 then (oF s a Ft.2).1++[(a:Int)] else (oF s a Ft.2).1)) (oF s a Ft.2).2:=rfl
  try dsimp only [Kr,Kq,Kp,Lv]
  repeat' (first|refine L3 ?_|refine KG a4 HY ?_|(apply bo;first|refine KM a4 0 KC ?_|refine KM a4 1 KC ?_|refine KM a4 2 KC ?_|refine KM a4 3 KC ?_|refine KN a4 0 KC ?_|refine KN a4 1 KC ?_|refine KN a4 2 KC ?_|refine KO a4 1 KA (by assumption) rfl ?_|refine KO a4 0 KA (by assumption) rfl ?_|fail)|fail)
  refine aw rfl (fun h=>?_) (fun h=>?_)
  ·have hal:a < lk.1.length:=by have:=Ky h;rw [hlkm] at this;omega
   generalize oF s a Ft.2=As at hal7 hst7 ⊢
   have hasm:(aW As.1).length=As.1.length:=bb _
   unfold cn at hst7
   repeat' (first|refine L3 ?_|refine ak ?_|refine KG a4 HY ?_)
   refine cL ?_
   generalize dr s 3 As.2=z at hst7 ⊢
   dsimp only [ret] at hst7
   repeat' (first|refine L3 ?_|refine KG a4 HY ?_)
   refine aw rfl (fun hz=>?_) (fun hz=>?_)
   ·rw [if_pos (Ky hz)] at hst7
    repeat' (first|refine L3 ?_|refine KG a4 HY ?_|refine bW a4 ?_|fail)
    refine bV a4 _ rfl rfl rfl rfl (eV (A:=[_,_])) (by simp [bb];omega) (by simp [bb];omega) rfl fun q'=>?_
    refine aP (aI (eV (A:=[_,_])).symm) ?_
    repeat' (first|refine L3 ?_|refine KG a4 HY ?_|(apply aU;refine aT ?_)|fail)
    exact aD (a+1,q') rfl ⟨by rw [Kv];rfl,by rw [hst7];dsimp only;rw [show aW (As.1++[(a:Int)])=aW As.1++[[aF (a:Int)]] from List.map_append ..];rfl,trivial⟩ (by dsimp only;omega) (by dsimp only;omega) (fun _ _ h=>by dsimp only;rw [hst7];dsimp only;rw [show aW (As.1++[(a:Int)])=aW As.1++[[aF (a:Int)]] from List.map_append ..];exact h)
   ·rw [if_neg (Kx hz)] at hst7
    repeat' (first|refine L3 ?_|refine KG a4 HY ?_|(apply aU;refine aT ?_)|fail)
    exact aD (a+1,q7) rfl ⟨by rw [Kv];rfl,by rw [hst7];rfl,trivial⟩ (by dsimp only;omega) (by dsimp only;omega) (fun _ _ h=>by dsimp only;rw [hst7];exact h)
  have hal:a=lk.1.length:=by have:=Kx h;rw [hlkm] at this;omega
  subst hal
  clear hst7
  generalize oF s lk.1.length Ft.2=As at hal7 hstep ⊢
  dsimp only at hstep
  repeat' (first|refine L3 ?_|refine KG a4 HY ?_)
  refine aP (bS (t:=18) (c':= .imm 1 (aW As.1)) rfl fun σ v h=>VR.im h) ?_
  refine aP (c6 (L':=[eo b s ⟨aF U,.vec q4 9 (gl.1.map bT),.imm 2 (ch.1.map eB),.imm 3 (lk.1.map bw),.vec q6 2 (Ft.1.map cy),.imm 4 (A.1.map cX),.imm 1 (rg.1.map bZ),.imm 1 (fu.1.map dU),.imm 1 (aW cv.1)⟩ As.2,tB tb]++tok q6 121 2 (Ft.1.map cy).length) (List.Sublist.cons_cons _ (List.Sublist.cons_cons _ (List.sublist_append_right _ _)))) ?_
  refine cL ?_
  generalize dr s 2 As.2=z at hstep ⊢
  dsimp only [ret] at hstep
  repeat' (first|refine L3 ?_|refine KG a4 HY ?_)
  refine aw rfl (fun hz=>?_) (fun hz=>?_)
  ·rw [if_pos (Ky hz)] at hstep
   repeat' (first|fail)
   refine bn 14 [(0,.v),(1,.v),(2,.v),(3,.v),(4,.v),(5,.l),(6,.v),(7,.v),(8,.v),(9,.v),(10,.v),(11,.v),(12,.v),(13,.e)] none ?_ trivial rfl (by kernel_rfl) (by kernel_rfl) (by kernel_rfl) bI (by kernel_rfl) rfl
   repeat' (first|refine aB ?_|refine aX a4 ?_|(apply cm;refine cA a4 ?_)|refine eD a4 ?_|refine KY a4 0 KB (by first|trivial|rfl) ?_)
   refine fx a4 _ rfl rfl rfl rfl (List.perm_append_comm (l₁:=[_,_])) (by simp;omega) (by simp;omega) (by first | trivial | rfl) fun q'=>?_
   refine KU [2,3,16,17,225,238] HY ?_
   refine aP (aI (List.perm_append_comm (l₂:=[_,_]))) ?_
   repeat' (first|refine L3 ?_|refine KG a4 HY ?_|(apply aU;refine aT ?_)|(apply aM;first|refine KL 6 a4 0 KF ?_|refine KL 6 a4 1 KF ?_|refine KL 6 a4 2 KF ?_|refine KH a4 0 KE ?_|refine KH a4 1 KE ?_|refine KH a4 2 KE ?_|refine KH a4 3 KE ?_|fail))
   exact aD (jf+1,q') rfl ⟨by rw [Kv];rfl,trivial⟩ (by dsimp only;omega) (by dsimp only;omega) (fun _ _ h=>by dsimp only;rw [hstep];dsimp only;rw [List.map_append];exact h)
  ·rw [if_neg (Kx hz)] at hstep
   repeat' (first|refine L3 ?_|refine KG a4 HY ?_|(apply aU;refine aT ?_)|fail)
   exact aD (jf+1,q6) rfl ⟨by rw [Kv];rfl,trivial⟩ (by dsimp only;omega) (by dsimp only;omega) (fun _ _ h=>by dsimp only;rw [hstep];exact h)
 have hj8:jf=8:=by have:=Kx h;rw [hn8] at this;omega
 subst hj8
 clear hstep
 generalize e13:iu s lk.1.length 8 lk.2=ft at hftl ⊢
 repeat' (first|refine L3 ?_|refine KG a4 HY ?_|(apply bo;first|refine KM a4 0 KC ?_|refine KM a4 1 KC ?_|refine KM a4 2 KC ?_|refine KM a4 3 KC ?_|refine KN a4 0 KC ?_|refine KN a4 1 KC ?_|refine KN a4 2 KC ?_|refine KO a4 1 KA (by assumption) rfl ?_|refine KO a4 0 KA (by assumption) rfl ?_|fail)|(apply aM;first|refine KL 6 a4 0 KF ?_|refine KL 6 a4 1 KF ?_|refine KL 6 a4 2 KF ?_|refine KH a4 0 KE ?_|refine KH a4 1 KE ?_|refine KH a4 2 KE ?_|refine KH a4 3 KE ?_|fail))
 have hv:lg s=⟨U,gl.1,ch.1,lk.1,ft.1,A.1,rg.1,fu.1,cv.1⟩:=by
  unfold lg Dj cn
  rw [e1]
  try dsimp only
  rw [e2]
  try dsimp only
  rw [hkk,Int.toNat_natCast,e3]
  try dsimp only
  rw [e4,e5]
  try dsimp only
  rw [hkk2,Int.toNat_natCast,e6]
  try dsimp only
  rw [e7]
  try dsimp only
  rw [hkk3,Int.toNat_natCast,e8]
  try dsimp only
  rw [e9]
  try dsimp only
  rw [hkk4,Int.toNat_natCast,e10]
  try dsimp only
  rw [e11]
  try dsimp only
  rw [e12]
  try dsimp only
  rw [e13,hU]
  rfl
 rw [hv]
 exact bj (bG 1 (cs':=cJ ⟨U,gl.1,ch.1,lk.1,ft.1,A.1,rg.1,fu.1,cv.1⟩) rfl fun σ vs h=>mE.vrs (a:=[aF U,.vec q4 9 (gl.1.map bT),.imm 2 (ch.1.map eB),.imm 3 (lk.1.map bw),.vec q6 2 (ft.1.map cy),.imm 4 (A.1.map cX),.imm 1 (rg.1.map bZ),.imm 1 (fu.1.map dU),.imm 1 (aW cv.1)]) (b:=cJ ⟨U,gl.1,ch.1,lk.1,ft.1,A.1,rg.1,fu.1,cv.1⟩) ⟨da.refl _,da.im,da.refl _,da.refl _,da.im,da.refl _,da.refl _,da.refl _,da.refl _,trivial⟩ h) (ju a4 1 [] rfl rfl rfl rfl rfl (List.nil_sublist _) rfl)
end Go.Proofs.YtpmdfoaadejmkaaGreatDoor
