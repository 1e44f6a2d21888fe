/-
  The maker: fonts.
-/
import Derived.Test.YtjjpkibjffmceaaGreatM29
import Derived.Test.YtjjpkibjffmceaaGreatM26
import Derived.Test.YtjjpkibjffmceaaGreatM25
namespace Go.Proofs.YtjjpkibjffmceaaGreat
open Go.RowKit
attribute [local irreducible] AT bW AX AO Av Kt bA eI DA dl
variable (s:List Int) (hs:s.length≤1000000)
theorem BU {a c:Nat×AB} {T:AL}:([a,c]++T).Perm (([a]++(T++[]))++[c]):=by
 rw [List.append_nil]
 exact List.Perm.cons a (List.perm_append_comm (l₁:=[c]))
theorem GE {A T:AL} {c:Nat×AB}:((A++T)++[c]).Perm ((A++[c])++T):=by
 rw [List.append_assoc,List.append_assoc]
 exact List.Perm.append_left _ List.perm_append_comm
theorem zm:bV Tryz.prog 22 [] (.imm 1 (aZ fx)):=by
 refine aS Tryz.func22 rfl Tryz.ntmps22 rfl fun B=>?_
 repeat' (first|refine go ?_|refine HK a6 FS ?_|refine bG a6 ?_|fail)
 exact HT HE
theorem uE:bV Tryz.prog 23 [] (.imm 1 (gg eG)):=by
 refine aS Tryz.func23 rfl Tryz.ntmps23 rfl fun B=>?_
 repeat' (first|refine go ?_|refine HK a6 FS ?_|refine bG a6 ?_|fail)
 exact HT HE
theorem rD (k:Nat) (m:MS):(kM s k m).1.length=k:=by
 exact (bZ.runs (fun i (l:List eM)=>l.length=i) k rfl fun i l _ h=>(bZ.any _).bnd fun a _=>(bZ.any _).bnd fun b _=>bZ.ret (by simp [h])) m
theorem wG (k:Nat) (m:MS):(iy s k m).1.length=k:=by
 exact (bZ.runs (fun i (l:List eu)=>l.length=i) k rfl fun i l _ h=>(bZ.any _).bnd fun a _=>bZ.ret (by simp [h])) m
theorem se (x k:Nat) (m:MS):(kE s x k m).1.length=k:=by
 exact (bZ.runs (fun i (l:List (List eu))=>l.length=i) k rfl fun i l _ h=>(bZ.any _).bnd fun a _=>bZ.ret (by simp [h])) m
theorem vW (k:Nat) (m:MS):(iT s k m).1.length=k:=by
 exact (bZ.runs (fun i (l:List (List eL))=>l.length=i) k rfl fun i l _ h=>(bZ.any _).bnd fun a _=>(bZ.any _).bnd fun b _=>bZ.ret (by simp [h])) m
theorem AF (k:Nat) (m:MS):(pW s k m).1.length=k:=by
 exact (bZ.runs (fun i (l:List Int)=>l.length=i) k rfl fun i l _ h=>(bZ.any _).bnd fun a _=>bZ.ret (by simp [h])) m
theorem um (R fn k:Nat) (m:MS):(gD s R fn k m).1.length=k:=by
 exact (bZ.runs (fun i (l:List br)=>l.length=i) k rfl fun i l _ h=>(bZ.any _).bnd fun a _=>bZ.ret (by simp [h])) m
theorem vI (n:Int) (k:Nat) (m:MS):(iq s n k m).1.length≤k:=by
 exact (bZ.runs (fun i (l:List eN)=>l.length≤i) k (Nat.le_refl _) fun i l _ h=>(bZ.any _).bnd fun a _=>bZ.ite (fun _=>(bZ.any _).bnd fun b _=>bZ.ret (by simp;omega)) fun _=>bZ.ret (by omega)) m
theorem Ai (k:Nat) (m:MS):(nS s k m).1.length≤k:=by
 exact (bZ.runs (fun i (l:List Int)=>l.length≤i) k (Nat.le_refl _) fun i l _ h=>(bZ.any _).bnd fun a _=>bZ.ret (by
  split
  ·simp;omega
  ·omega)) m
theorem vS (n k:Nat) (m:MS):(iu s n k m).1.length≤k:=by
 exact (bZ.runs (fun i (l:List bL)=>l.length≤i) k (Nat.le_refl _) fun i l _ h=>(bZ.any _).bnd fun a _=>(bZ.any _).bnd fun b _=>bZ.ret (by
  split
  ·simp;omega
  ·omega)) m
abbrev tB (tb:Nat):Nat×AB:=(tb,.box [aP 0,bQ,bQ,bQ,bQ,bQ,bQ,bQ,bQ] 36)
include hs
set_option maxHeartbeats 32000000 in
theorem Bx:bV Tryz.prog 21 [.imm 1 (aZ s)] (cr (nh s)):=by
 refine aS Tryz.func21 rfl Tryz.ntmps21 rfl fun B=>?_
 repeat' (first|refine go ?_|refine HK a6 FS ?_|refine s8 (d:=22) fun _=>?_|refine aX a6 fun _=>?_|refine bG a6 ?_|fail)
 rename_i tb b
 refine aO (aK (L':=[eF b s ⟨aP 0,bQ,bQ,bQ,bQ,bQ,bQ,bQ,bQ⟩ ⟨0,0⟩,tB tb]) (Im _)) ?_
 refine aO (bD 0 (cs':=Gz s ⟨aP 0,.vec none 9 [],.vec none 2 [],bQ,.vec none 2 [],.vec none 4 [],.vec none 1 [],.vec none 1 [],.vec none 1 []⟩ ⟨0,0⟩) rfl fun σ vs h=>cC (k:=3) (cC (k:=4) (cC (k:=6) (cC (k:=7) (cC (k:=8) (cC (k:=9) (cC (k:=10) h rfl fun v hv=>cq 1 hv) rfl fun v hv=>cq 1 hv) rfl fun v hv=>cq 1 hv) rfl fun v hv=>cq 4 hv) rfl fun v hv=>cq 2 hv) rfl fun v hv=>cq 2 hv) rfl fun v hv=>cq 9 hv) ?_
 refine cS ?_
 have hu:=cB s hs 0 (n:=4) (by omega)
 have hu:0≤(dr s 4 ⟨0,0⟩).1∧(dr s 4 ⟨0,0⟩).1 < 4:=hu
 generalize e1:dr s 4 ⟨0,0⟩=u at hu ⊢
 have hul:(aZ mE)[u.1.toNat]?=some [aP (mE.getD u.1.toNat 0)]:=bT (lA (by simp only [mE,List.length_cons,List.length_nil];omega) 0)
 generalize hU:mE.getD u.1.toNat 0=U at hul
 repeat' (first|refine go ?_|refine HK a6 FS ?_|(apply aU;first|refine aT a6 ?_|refine aM a6 ?_)|(apply aG;first|refine HN 6 a6 0 HJ ?_|refine HN 6 a6 1 HJ ?_|refine HN 6 a6 2 HJ ?_|refine HM a6 0 HH ?_|refine HM a6 1 HH ?_|refine HM a6 2 HH ?_|refine HM a6 3 HH ?_|fail))
 refine aO (aK (L':=[eF b s ⟨aP U,.vec none 9 [],.vec none 2 [],bQ,.vec none 2 [],.vec none 4 [],.vec none 1 [],.vec none 1 [],.vec none 1 []⟩ u.2,tB tb]) (Im _)) ?_
 refine cS ?_
 have hk:=cB s hs u.2.a (n:=3) (by omega)
 have hk:0≤(dr s 3 u.2).1∧(dr s 3 u.2).1 < 3:=hk
 generalize e2:dr s 3 u.2=k1 at hk ⊢
 obtain ⟨k,hkk⟩:∃k:Nat,k1.1=k:=⟨k1.1.toNat,by omega⟩
 rw [hkk]
 repeat' (first|refine go ?_|refine ak ?_|refine HK a6 FS ?_)
 refine aJ [2,3,4] (α:=Nat×Option (Nat×Nat)) (fun x=>[(5,aP x.1)]) (fun x=>x.1≤k) (fun x=>[eF b s ⟨aP U,.vec none 9 [],.vec none 2 [],bQ,.vec none 2 [],.vec x.2 4 ((kM s x.1 k1.2).1.map cD),.vec none 1 [],.vec none 1 [],.vec none 1 []⟩ (kM s x.1 k1.2).2,tB tb]++tok x.2 93 4 ((kM s x.1 k1.2).1.map cD).length) (fun x=>k - x.1) (0,none) rfl ⟨rfl,trivial⟩ (Nat.zero_le _) (fun _ _ h=>h) ?_
 rintro ⟨i,q⟩ hi
 dsimp only at hi ⊢
 have hal:=rD s i k1.2
 have hstep:kM s (i+1) k1.2=(co (dr s 3) fun a=>co (dr s 4) fun b=>cQ ((kM s i k1.2).1++[(⟨iV sA i,0 - a * 100,0,b * 100⟩:eM)])) (kM s i k1.2).2:=rfl
 try dsimp only [Ir,Iq,Ip,Ij]
 repeat' (first|refine go ?_|refine HK a6 FS ?_)
 refine ay rfl (fun h=>?_) (fun h=>?_)
 ·have hil:i < k:=by have:=Iy h;omega
  generalize kM s i k1.2=A at hal hstep ⊢
  have halm:(A.1.map cD).length=A.1.length:=It ..
  repeat' (first|refine go ?_|refine ak ?_)
  refine bn 15 [(0,.v),(1,.v),(2,.v),(3,.v),(4,.v),(5,.v),(6,.v),(10,.v),(7,.e),(8,.v),(9,.v),(11,.e),(12,.v),(13,.v)] (some (14,.box _ 93)) ?_ ⟨_,rfl,rfl,fun _ _ _=>gA (f5 a6 rfl) rfl⟩ rfl (by kernel_rfl) (by kernel_rfl) (by kernel_rfl) mixed (by kernel_rfl) rfl
  repeat' (first|refine aC ?_|refine b7 a6 ?_|(apply fq;refine gK ?_)|fail)
  refine AH a6 ?_
  rw [uw i (by omega)]
  repeat' (first|refine aC ?_|refine eS a6 ?_|fail)
  refine wX a6 ?_
  rw [xb i (by omega)]
  repeat' (first|refine aC ?_|fail)
  refine dy (hs:=Nat.le_of_ble_eq_true rfl) ?_
  rw [xT]
  repeat' (first|refine aC ?_|refine b7 a6 ?_|fail)
  refine sG ?_
  have ha:=cB s hs A.2.a (n:=3) (by omega)
  have ha:0≤(dr s 3 A.2).1∧(dr s 3 A.2).1 < 3:=ha
  unfold co at hstep
  generalize dr s 3 A.2=a at ha hstep ⊢
  dsimp only at hstep
  repeat' (first|refine aC ?_|(apply fq;refine gK ?_)|fail)
  refine sG ?_
  have hc:=cB s hs a.2.a (n:=4) (by omega)
  have hc:0≤(dr s 4 a.2).1∧(dr s 4 a.2).1 < 4:=hc
  generalize dr s 4 a.2=c at hc hstep ⊢
  try dsimp only [cQ] at hstep
  repeat' (first|refine aC ?_|refine b7 a6 ?_|(apply fq;refine gK ?_)|fail)
  refine je [2,3,4,5,6,52] (fun _=>_) (fun _=>rfl) rfl fun _=>?_
  rename_i ab
  refine aO (aK (GE (A:=[_,_]))) ?_
  repeat' (first|refine go ?_|(apply aG;first|refine HN 6 a6 0 HJ ?_|refine HN 6 a6 1 HJ ?_|refine HN 6 a6 2 HJ ?_|refine HM a6 0 HH ?_|refine HM a6 1 HH ?_|refine HM a6 2 HH ?_|refine HM a6 3 HH ?_|fail))
  refine bn 9 [(0,.v),(1,.v),(2,.v),(3,.v),(4,.v),(5,.l),(6,.v),(7,.v),(8,.e)] none ?_ trivial rfl (by kernel_rfl) (by kernel_rfl) (by kernel_rfl) mixed (by kernel_rfl) rfl
  repeat' (first|refine aC ?_|refine b7 a6 ?_|refine eS a6 ?_|refine dt a6 0 rfl rfl rfl rfl (by first|trivial|rfl) ?_)
  refine gB a6 _ rfl rfl rfl rfl (List.perm_append_comm (l₁:=[_,_])) (by simp;omega) (by simp;omega) (by first | trivial | rfl) fun q'=>?_
  refine HU [2,3,4,5,53,61] FS ?_
  refine aO (aK (List.perm_append_comm (l₂:=[_,_]))) ?_
  repeat' (first|refine go ?_|refine HK a6 FS ?_|(apply aW;refine aV ?_)|(apply aG;first|refine HN 6 a6 0 HJ ?_|refine HN 6 a6 1 HJ ?_|refine HN 6 a6 2 HJ ?_|refine HM a6 0 HH ?_|refine HM a6 1 HH ?_|refine HM a6 2 HH ?_|refine HM a6 3 HH ?_|fail))
  exact aB (i+1,q') rfl ⟨by rw [Iv];rfl,trivial⟩ (by dsimp only;omega) (by dsimp only;omega) (fun _ _ h=>by dsimp only;rw [hstep];dsimp only;rw [List.map_append];exact h)
 have hil:i=k:=by have:=Ix h;omega
 subst hil
 clear hstep
 have hal:=rD s i k1.2
 generalize e3:kM s i k1.2=A at hal ⊢
 repeat' (first|refine go ?_|refine HK a6 FS ?_)
 refine bH (bD 0 rfl fun σ vs h=>cC (k:=7) (c':= .imm 4 (A.1.map cD)) h rfl fun v hv=>VR.im hv) ?_
 refine bH (ck (L':=[eF b s ⟨aP U,.vec none 9 [],.vec none 2 [],bQ,.vec none 2 [],.imm 4 (A.1.map cD),.vec none 1 [],.vec none 1 [],.vec none 1 []⟩ A.2,tB tb]) (List.Sublist.cons_cons _ (List.Sublist.cons_cons _ (List.nil_sublist _)))) ?_
 refine sy [2,3,4] ([eF b s ⟨aP U,.vec none 9 [],.vec none 2 [],bQ,.vec none 2 [],.imm 4 (A.1.map cD),.imm 1 ((gd s i A.2).1.map bw),.vec none 1 [],.vec none 1 []⟩ (gd s i A.2).2,tB tb]) rfl (fun Q' K=>?_) ?_
 ·refine ay rfl (fun h=>?_) (fun h=>?_)
  ·have hi0:¬i=0:=by have:=Iy h;omega
   repeat' (first|refine go ?_|refine HK a6 FS ?_)
   refine cS ?_
   have hn:=cB s hs A.2.a (n:=4) (by omega)
   have hn:0≤(dr s 4 A.2).1∧(dr s 4 A.2).1 < 4:=hn
   generalize e4:dr s 4 A.2=n1 at hn ⊢
   obtain ⟨n,hnn⟩:∃k:Nat,n1.1=k:=⟨n1.1.toNat,by omega⟩
   have hv:gd s i A.2=kE s i n n1.2:=by
    unfold gd
    rw [if_neg hi0]
    unfold co
    rw [e4]
    dsimp only
    rw [hnn,Int.toNat_natCast]
   rw [hv] at K
   rw [hnn]
   repeat' (first|refine go ?_|refine ak ?_|refine HK a6 FS ?_)
   refine aJ [2,3,4,7] (α:=Nat×Option (Nat×Nat)) (fun x=>[(8,aP x.1)]) (fun x=>x.1≤n) (fun x=>[eF b s ⟨aP U,.vec none 9 [],.vec none 2 [],bQ,.vec none 2 [],.imm 4 (A.1.map cD),.vec x.2 1 ((kE s i x.1 n1.2).1.map bw),.vec none 1 [],.vec none 1 []⟩ (kE s i x.1 n1.2).2,tB tb]++tok x.2 98 1 ((kE s i x.1 n1.2).1.map bw).length) (fun x=>n - x.1) (0,none) rfl ⟨rfl,trivial⟩ (Nat.zero_le _) (fun _ _ h=>h) ?_
   rintro ⟨j,q⟩ hj
   dsimp only at hj ⊢
   have hrl:=se s i j n1.2
   have hstep:kE s i (j+1) n1.2=((kE s i j n1.2).1++[(iy s i (kE s i j n1.2).2).1],(iy s i (kE s i j n1.2).2).2):=rfl
   try dsimp only [Ir,Iq,Ip,Ij]
   repeat' (first|refine go ?_|refine HK a6 FS ?_)
   refine ay rfl (fun h=>?_) (fun h=>?_)
   ·have hjn:j < n:=by have:=Iy h;omega
    generalize kE s i j n1.2=Rg at hrl hstep ⊢
    have hrlm:(Rg.1.map bw).length=Rg.1.length:=It ..
    repeat' (first|refine go ?_|refine ak ?_|refine HK a6 FS ?_|refine aX a6 fun _=>?_|fail)
    rename_i rb
    refine bH (bD 0 (cs':=[.vec none 3 []]) rfl fun σ vs h=>cC (k:=0) h rfl fun v hv=>cq 3 hv) ?_
    refine bH (aK (List.perm_middle (l₁:=[_,_])).symm) ?_
    refine aJ [2,3,4,7,8,9] (α:=Nat×Option (Nat×Nat)) (fun x=>[(10,aP x.1)]) (fun x=>x.1≤i) (fun x=>[eF b s ⟨aP U,.vec none 9 [],.vec none 2 [],bQ,.vec none 2 [],.imm 4 (A.1.map cD),.vec q 1 (Rg.1.map bw),.vec none 1 [],.vec none 1 []⟩ (iy s x.1 Rg.2).2,tB tb,(rb,.box [.vec x.2 3 ((iy s x.1 Rg.2).1.map fY)] 98)]++(tok x.2 95 3 ((iy s x.1 Rg.2).1.map fY).length++tok q 98 1 (Rg.1.map bw).length)) (fun x=>i - x.1) (0,none) rfl ⟨rfl,trivial⟩ (Nat.zero_le _) (fun _ _ h=>h) ?_
    rintro ⟨a,qt⟩ ha
    dsimp only at ha ⊢
    have htl:=wG s a Rg.2
    have hstt:iy s (a+1) Rg.2=(co (dr s 5) fun z=>cQ ((iy s a Rg.2).1++[kw.getD z.toNat ⟨0,0,0⟩])) (iy s a Rg.2).2:=rfl
    try dsimp only [Ir,Iq,Ip,Ij]
    repeat' (first|refine go ?_|refine HK a6 FS ?_)
    refine ay rfl (fun h=>?_) (fun h=>?_)
    ·have hai:a < i:=by have:=Iy h;omega
     generalize iy s a Rg.2=Tn at htl hstt ⊢
     have htlm:(Tn.1.map fY).length=Tn.1.length:=It ..
     repeat' (first|refine go ?_|refine ak ?_)
     refine dz [.cell (rb,0,.vec qt 3 (Tn.1.map fY))] 13 [(0,.v),(1,.k),(2,.v),(3,.v),(4,.v),(5,.v),(6,.v),(7,.v),(8,.v),(9,.f),(10,.v),(11,.v),(12,.v)] none ?_ trivial rfl (by kernel_rfl) (by kernel_rfl) (by kernel_rfl) mixed (by kernel_rfl) rfl
     repeat' (first|refine aC ?_|refine b7 a6 ?_|fail)
     refine eT a6 0 rfl rfl rfl (bU 2 rfl rfl cg) (by first | trivial | rfl) ?_
     repeat' (first|refine aC ?_|refine b7 a6 ?_|refine eS a6 ?_|fail)
     refine ff (bU 2 rfl rfl cg) ?_
     have hz:=cB s hs Tn.2.a (n:=5) (by omega)
     have hz:0≤(dr s 5 Tn.2).1∧(dr s 5 Tn.2).1 < 5:=hz
     unfold co at hstt
     generalize dr s 5 Tn.2=z at hz hstt ⊢
     dsimp only [cQ] at hstt
     have hzt:(kw.map fY)[z.1.toNat]?=some (fY (kw.getD z.1.toNat ⟨0,0,0⟩)):=by
      rw [List.getElem?_map,lA (l:=kw) (i:=z.1.toNat) (by simp only [kw,List.length_cons,List.length_nil];omega) ⟨0,0,0⟩]
      rfl
     generalize kw.getD z.1.toNat ⟨0,0,0⟩=tn at hzt hstt
     repeat' (first|refine aC ?_|refine b7 a6 ?_|(apply bY;refine cn a6 ?_)|refine eS a6 ?_|fail)
     refine HU [2,3,4,7,8,9,10,80,91] FS ?_
     repeat' (first|fail)
     refine bB a6 _ rfl rfl rfl rfl (fi (A:=[_,_,_])) (by simp;omega) (by simp;omega) rfl fun q'=>?_
     refine aO (aK (fi (A:=[_,_,_])).symm) ?_
     repeat' (first|refine go ?_|refine HK a6 FS ?_|(apply aW;refine aV ?_)|(apply aG;first|refine HN 6 a6 0 HJ ?_|refine HN 6 a6 1 HJ ?_|refine HN 6 a6 2 HJ ?_|refine HM a6 0 HH ?_|refine HM a6 1 HH ?_|refine HM a6 2 HH ?_|refine HM a6 3 HH ?_|fail))
     exact aB (a+1,q') rfl ⟨by rw [Iv];rfl,trivial⟩ (by dsimp only;omega) (by dsimp only;omega) (fun _ _ h=>by dsimp only;rw [hstt];dsimp only;rw [List.map_append];exact h)
    have hai:a=i:=by have:=Ix h;omega
    subst hai
    clear hstt htl
    generalize iy s a Rg.2=Tn at hstep ⊢
    repeat' (first|refine go ?_|fail)
    refine bH (bD 2 (cs':=[.imm 3 (Tn.1.map fY)]) rfl fun σ vs h=>cC (k:=0) h rfl fun v hv=>VR.im hv) ?_
    refine bH (ck (L':=[eF b s ⟨aP U,.vec none 9 [],.vec none 2 [],bQ,.vec none 2 [],.imm 4 (A.1.map cD),.vec q 1 (Rg.1.map bw),.vec none 1 [],.vec none 1 []⟩ Tn.2,tB tb,(rb,.box (bw Tn.1) 98)]++tok q 98 1 (Rg.1.map bw).length) (List.Sublist.cons_cons _ (List.Sublist.cons_cons _ (List.Sublist.cons_cons _ (List.sublist_append_right _ _))))) ?_
    refine bn 9 [(0,.v),(1,.v),(2,.v),(3,.v),(4,.v),(5,.l),(6,.l),(7,.v),(8,.e)] none ?_ trivial rfl (by kernel_rfl) (by kernel_rfl) (by kernel_rfl) mixed (by kernel_rfl) rfl
    repeat' (first|refine aC ?_|refine b7 a6 ?_|refine dt a6 0 rfl rfl rfl rfl (by first|trivial|rfl) ?_)
    refine wY a6 2 rfl rfl rfl rfl (by first | trivial | rfl) ?_
    repeat' (first|refine aC ?_|refine eS a6 ?_|fail)
    refine gB a6 _ rfl rfl rfl rfl (List.perm_append_comm (l₁:=[_,_,_])) (by simp;omega) (by simp;omega) (by first | trivial | rfl) fun q'=>?_
    refine HU [2,3,4,7,8,94,102] FS ?_
    refine aO (aK (List.perm_append_comm (l₂:=[_,_,_]))) ?_
    repeat' (first|refine go ?_|refine HK a6 FS ?_|(apply aW;refine aV ?_)|(apply aG;first|refine HN 6 a6 0 HJ ?_|refine HN 6 a6 1 HJ ?_|refine HN 6 a6 2 HJ ?_|refine HM a6 0 HH ?_|refine HM a6 1 HH ?_|refine HM a6 2 HH ?_|refine HM a6 3 HH ?_|fail))
    exact aB (j+1,q') rfl ⟨by rw [Iv];rfl,trivial⟩ (by dsimp only;omega) (by dsimp only;omega) (fun _ _ h=>by dsimp only;rw [hstep];dsimp only;rw [List.map_append];exact h.sublist (List.Sublist.cons_cons _ (List.Sublist.cons_cons _ (List.sublist_cons_self ..))))
   have hjn:j=n:=by have:=Ix h;omega
   subst hjn
   generalize kE s i j n1.2=Rg at K ⊢
   repeat' (first|refine go ?_|fail)
   refine bc (bD 0 rfl fun σ vs h=>cC (k:=8) (c':= .imm 1 (Rg.1.map bw)) h rfl fun v hv=>VR.im hv) ?_
   refine bc (ck (L':=[eF b s ⟨aP U,.vec none 9 [],.vec none 2 [],bQ,.vec none 2 [],.imm 4 (A.1.map cD),.imm 1 (Rg.1.map bw),.vec none 1 [],.vec none 1 []⟩ Rg.2,tB tb]) (List.Sublist.cons_cons _ (List.Sublist.cons_cons _ (List.nil_sublist _)))) ?_
   exact K _ rfl
  ·have hi0:i=0:=by have:=Ix h;omega
   have hv:gd s i A.2=([],A.2):=by
    unfold gd
    rw [if_pos hi0]
    rfl
   rw [hv] at K
   repeat' (first|refine go ?_|fail)
   refine bc (bD 0 rfl fun σ vs h=>cC (k:=8) (c':= .imm 1 []) h rfl fun v hv=>VR.im hv) ?_
   exact K _ rfl
 generalize e4:gd s i A.2=rg
 repeat' (first|refine go ?_|refine HK a6 FS ?_)
 refine cS ?_
 have hk2:=cB s hs rg.2.a (n:=3) (by omega)
 have hk2:0≤(dr s 3 rg.2).1∧(dr s 3 rg.2).1 < 3:=hk2
 generalize e5:dr s 3 rg.2=k2 at hk2 ⊢
 obtain ⟨k',hkk2⟩:∃k:Nat,k2.1=k:=⟨k2.1.toNat,by omega⟩
 rw [hkk2]
 repeat' (first|refine go ?_|refine ak ?_|refine HK a6 FS ?_)
 refine aJ [2,3,4] (α:=Nat×Option (Nat×Nat)) (fun x=>[(11,aP x.1)]) (fun x=>x.1≤k') (fun x=>[eF b s ⟨aP U,.vec none 9 [],.vec none 2 [],bQ,.vec none 2 [],.imm 4 (A.1.map cD),.imm 1 (rg.1.map bw),.vec x.2 1 ((iT s x.1 k2.2).1.map cR),.vec none 1 []⟩ (iT s x.1 k2.2).2,tB tb]++tok x.2 61 1 ((iT s x.1 k2.2).1.map cR).length) (fun x=>k' - x.1) (0,none) rfl ⟨rfl,trivial⟩ (Nat.zero_le _) (fun _ _ h=>h) ?_
 rintro ⟨j,q2⟩ hj
 dsimp only at hj ⊢
 have hfl:=vW s j k2.2
 have hstep:iT s (j+1) k2.2=(co (ib 0) fun _=>co (nc s 6 j 4) fun h=>cQ ((iT s j k2.2).1++[h])) (iT s j k2.2).2:=rfl
 try dsimp only [Ir,Iq,Ip,Ij]
 repeat' (first|refine go ?_|refine HK a6 FS ?_)
 refine ay rfl (fun h=>?_) (fun h=>?_)
 ·have hjk:j < k':=by have:=Iy h;omega
  generalize iT s j k2.2=Fu at hfl hstep ⊢
  have hflm:(Fu.1.map cR).length=Fu.1.length:=It ..
  unfold co at hstep
  repeat' (first|refine go ?_|refine ak ?_|refine HK a6 FS ?_|(apply aG;first|refine HN 6 a6 0 HJ ?_|refine HN 6 a6 1 HJ ?_|refine HN 6 a6 2 HJ ?_|refine HM a6 0 HH ?_|refine HM a6 1 HH ?_|refine HM a6 2 HH ?_|refine HM a6 3 HH ?_|fail))
  refine bH (aK (L':=[eF b s ⟨aP U,.vec none 9 [],.vec none 2 [],bQ,.vec none 2 [],.imm 4 (A.1.map cD),.imm 1 (rg.1.map bw),.vec q2 1 (Fu.1.map cR),.vec none 1 []⟩ (ib 0 Fu.2).2,tB tb]++tok q2 61 1 (Fu.1.map cR).length) (Im _)) ?_
  generalize (ib 0 Fu.2).2=w at hstep ⊢
  dsimp only at hstep
  refine dz [.cell (b,9,.vec q2 1 (Fu.1.map cR))] 11 [(0,.v),(1,.v),(2,.v),(3,.v),(4,.v),(5,.k),(6,.v),(7,.v),(8,.f),(9,.v),(10,.e)] none ?_ trivial rfl (by kernel_rfl) (by kernel_rfl) (by kernel_rfl) mixed (by kernel_rfl) rfl
  repeat' (first|refine aC ?_|refine b7 a6 ?_|fail)
  refine eT a6 0 rfl rfl rfl (bU 0 rfl rfl cg) (by first | trivial | rfl) ?_
  repeat' (first|refine aC ?_|refine b7 a6 ?_|fail)
  refine rG (rW s hs _ (n:=6) (fn:=(j:Int)) (most:=4) (by omega) (by omega) (by omega)) (bU 0 rfl rfl cg) ?_
  generalize nc s 6 j 4 w=hi at hstep ⊢
  try dsimp only [cQ] at hstep
  unfold jy
  repeat' (first|refine aC ?_|refine eS a6 ?_|fail)
  refine gB a6 _ rfl rfl rfl rfl (List.perm_append_comm (l₁:=[_,_])) (by simp;omega) (by simp;omega) (by first | trivial | rfl) fun q'=>?_
  refine HU [2,3,4,11,116,126] FS ?_
  refine aO (aK (List.perm_append_comm (l₂:=[_,_]))) ?_
  repeat' (first|refine go ?_|refine HK a6 FS ?_|(apply aW;refine aV ?_)|(apply aG;first|refine HN 6 a6 0 HJ ?_|refine HN 6 a6 1 HJ ?_|refine HN 6 a6 2 HJ ?_|refine HM a6 0 HH ?_|refine HM a6 1 HH ?_|refine HM a6 2 HH ?_|refine HM a6 3 HH ?_|fail))
  exact aB (j+1,q') rfl ⟨by rw [Iv];rfl,trivial⟩ (by dsimp only;omega) (by dsimp only;omega) (fun _ _ h=>by dsimp only;rw [hstep];dsimp only;rw [List.map_append];exact h)
 have hjk:j=k':=by have:=Ix h;omega
 subst hjk
 clear hstep
 generalize e6:iT s j k2.2=fu at hfl ⊢
 repeat' (first|refine go ?_|refine HK a6 FS ?_)
 refine aO (bD 0 rfl fun σ vs h=>cC (k:=9) (c':= .imm 1 (fu.1.map cR)) h rfl fun v hv=>VR.im hv) ?_
 refine aO (ck (L':=[eF b s ⟨aP U,.vec none 9 [],.vec none 2 [],bQ,.vec none 2 [],.imm 4 (A.1.map cD),.imm 1 (rg.1.map bw),.imm 1 (fu.1.map cR),.vec none 1 []⟩ fu.2,tB tb]) (List.Sublist.cons_cons _ (List.Sublist.cons_cons _ (List.nil_sublist _)))) ?_
 refine cS ?_
 have hk3:=cB s hs fu.2.a (n:=4) (by omega)
 have hk3:0≤(dr s 4 fu.2).1∧(dr s 4 fu.2).1 < 4:=hk3
 generalize e7:dr s 4 fu.2=k3 at hk3 ⊢
 obtain ⟨k'',hkk3⟩:∃k:Nat,k3.1=k:=⟨k3.1.toNat,by omega⟩
 rw [hkk3]
 repeat' (first|refine go ?_|refine ak ?_|refine HK a6 FS ?_)
 refine aJ [2,3,4] (α:=Nat×Option (Nat×Nat)) (fun x=>[(12,aP x.1)]) (fun x=>x.1≤k'') (fun x=>[eF b s ⟨aP U,.vec none 9 [],.vec none 2 [],bQ,.vec none 2 [],.imm 4 (A.1.map cD),.imm 1 (rg.1.map bw),.imm 1 (fu.1.map cR),.vec x.2 1 (aZ (pW s x.1 k3.2).1)⟩ (pW s x.1 k3.2).2,tB tb]++tok x.2 3 1 (aZ (pW s x.1 k3.2).1).length) (fun x=>k'' - x.1) (0,none) rfl ⟨rfl,trivial⟩ (Nat.zero_le _) (fun _ _ h=>h) ?_
 rintro ⟨jc,q3⟩ hjc
 dsimp only at hjc ⊢
 have hcl:=AF s jc k3.2
 have hstep:pW s (jc+1) k3.2=(co (dr s 500) fun z=>cQ ((pW s jc k3.2).1++[z - 100])) (pW s jc k3.2).2:=rfl
 try dsimp only [Ir,Iq,Ip,Ij]
 repeat' (first|refine go ?_|refine HK a6 FS ?_)
 refine ay rfl (fun h=>?_) (fun h=>?_)
 ·have hjk:jc < k'':=by have:=Iy h;omega
  generalize pW s jc k3.2=C at hcl hstep ⊢
  have hclm:(aZ C.1).length=C.1.length:=aQ _
  unfold co at hstep
  repeat' (first|refine go ?_|refine ak ?_)
  refine dz [.cell (b,10,.vec q3 1 (aZ C.1))] 11 [(0,.v),(1,.v),(2,.v),(3,.v),(4,.v),(5,.k),(6,.v),(7,.f),(8,.v),(9,.v),(10,.e)] none ?_ trivial rfl (by kernel_rfl) (by kernel_rfl) (by kernel_rfl) mixed (by kernel_rfl) rfl
  repeat' (first|refine aC ?_|refine b7 a6 ?_|fail)
  refine eT a6 0 rfl rfl rfl (bU 0 rfl rfl cg) (by first | trivial | rfl) ?_
  repeat' (first|refine aC ?_|refine b7 a6 ?_|fail)
  refine ff (bU 0 rfl rfl cg) ?_
  have hz:=cB s hs C.2.a (n:=500) (by omega)
  have hz:0≤(dr s 500 C.2).1∧(dr s 500 C.2).1 < 500:=hz
  generalize dr s 500 C.2=z at hz hstep ⊢
  try dsimp only [cQ] at hstep
  repeat' (first|refine aC ?_|(apply fq;refine gK ?_)|refine eS a6 ?_|fail)
  refine gB a6 _ rfl rfl rfl rfl (List.perm_append_comm (l₁:=[_,_])) (by simp [aQ];omega) (by simp [aQ];omega) (by first | trivial | rfl) fun q'=>?_
  refine HU [2,3,4,12,137,147] FS ?_
  refine aO (aK (List.perm_append_comm (l₂:=[_,_]))) ?_
  repeat' (first|refine go ?_|refine HK a6 FS ?_|(apply aW;refine aV ?_)|(apply aG;first|refine HN 6 a6 0 HJ ?_|refine HN 6 a6 1 HJ ?_|refine HN 6 a6 2 HJ ?_|refine HM a6 0 HH ?_|refine HM a6 1 HH ?_|refine HM a6 2 HH ?_|refine HM a6 3 HH ?_|fail))
  exact aB (jc+1,q') rfl ⟨by rw [Iv];rfl,trivial⟩ (by dsimp only;omega) (by dsimp only;omega) (fun _ _ h=>by dsimp only;rw [hstep];dsimp only;rw [show aZ (C.1++[z.1 - 100])=aZ C.1++[[aP (z.1 - 100)]] from List.map_append ..];exact h)
 have hjk:jc=k'':=by have:=Ix h;omega
 subst hjk
 clear hstep
 generalize e8:pW s jc k3.2=cv at hcl ⊢
 repeat' (first|refine go ?_|refine HK a6 FS ?_)
 refine aO (bD 0 rfl fun σ vs h=>cC (k:=10) (c':= .imm 1 (aZ cv.1)) h rfl fun v hv=>VR.im hv) ?_
 refine aO (ck (L':=[eF b s ⟨aP U,.vec none 9 [],.vec none 2 [],bQ,.vec none 2 [],.imm 4 (A.1.map cD),.imm 1 (rg.1.map bw),.imm 1 (fu.1.map cR),.imm 1 (aZ cv.1)⟩ cv.2,tB tb]) (List.Sublist.cons_cons _ (List.Sublist.cons_cons _ (List.nil_sublist _)))) ?_
 refine cS ?_
 have hk4:=cB s hs cv.2.a (n:=9) (by omega)
 have hk4:0≤(dr s 9 cv.2).1∧(dr s 9 cv.2).1 < 9:=hk4
 generalize e9:dr s 9 cv.2=k4 at hk4 ⊢
 obtain ⟨n,hkk4⟩:∃k:Nat,2+k4.1=k:=⟨(2+k4.1).toNat,by omega⟩
 repeat' (first|refine go ?_|refine ak ?_|refine HK a6 FS ?_|(apply aW;refine aV ?_)|fail)
 rw [hkk4]
 have hrgl:(rg.1.map bw).length=rg.1.length:=It ..
 have hful:(fu.1.map cR).length=fu.1.length:=It ..
 have hrg3:rg.1.length≤1000:=by
  have hR:bZ (gd s A.1.length) fun l=>l.length≤3:=bZ.ite (fun _=>bZ.ret (Nat.zero_le _)) fun _=>(df s (by omega)).bnd fun n hn m=>by rw [se];omega
  have:=hR A.2
  rw [hal] at this
  rw [←e4]
  omega
 refine aJ [2,3,4] (α:=Nat×Option (Nat×Nat)) (fun x=>[(13,aP x.1)]) (fun x=>x.1≤n) (fun x=>[eF b s ⟨aP U,.vec x.2 9 ((gD s rg.1.length fu.1.length x.1 k4.2).1.map bC),.vec none 2 [],bQ,.vec none 2 [],.imm 4 (A.1.map cD),.imm 1 (rg.1.map bw),.imm 1 (fu.1.map cR),.imm 1 (aZ cv.1)⟩ (gD s rg.1.length fu.1.length x.1 k4.2).2,tB tb]++tok x.2 63 9 ((gD s rg.1.length fu.1.length x.1 k4.2).1.map bC).length) (fun x=>n - x.1) (0,none) rfl ⟨rfl,trivial⟩ (Nat.zero_le _) (fun _ _ h=>h) ?_
 rintro ⟨jg,q4⟩ hjg
 dsimp only at hjg ⊢
 have hgl:=um s rg.1.length fu.1.length jg k4.2
 have hstep:gD s rg.1.length fu.1.length (jg+1) k4.2=(co (km s rg.1.length fu.1.length jg) fun g=>cQ ((gD s rg.1.length fu.1.length jg k4.2).1++[g])) (gD s rg.1.length fu.1.length jg k4.2).2:=rfl
 try dsimp only [Ir,Iq,Ip,Ij]
 repeat' (first|refine go ?_|refine HK a6 FS ?_)
 refine ay rfl (fun h=>?_) (fun h=>?_)
 ·have hjn:jg < n:=by have:=Iy h;omega
  generalize gD s rg.1.length fu.1.length jg k4.2=Gs at hgl hstep ⊢
  have hglm:(Gs.1.map bC).length=Gs.1.length:=It ..
  unfold co at hstep
  repeat' (first|refine go ?_|refine ak ?_|refine HK a6 FS ?_)
  refine ba ([eF b s ⟨aP U,.vec q4 9 (Gs.1.map bC),.vec none 2 [],bQ,.vec none 2 [],.imm 4 (A.1.map cD),.imm 1 (rg.1.map bw),.imm 1 (fu.1.map cR),.imm 1 (aZ cv.1)⟩ Gs.2]++(tok q4 63 9 (Gs.1.map bC).length++[])) [tB tb] (B9 s hs ⟨aP U,.vec q4 9 (Gs.1.map bC),.vec none 2 [],bQ,.vec none 2 [],.imm 4 (A.1.map cD),.imm 1 (rg.1.map bw),.imm 1 (fu.1.map cR),.imm 1 (aZ cv.1)⟩ rfl rfl rfl rg.1.length fu.1.length jg hrgl hful (by omega) (by omega) (by omega) (by omega) b Gs.2) rfl rfl BU rfl fun c L1 ⟨q',hL1⟩=>?_
  subst hL1
  refine aO (aK BU.symm) ?_
  generalize km s rg.1.length fu.1.length jg Gs.2=g at hstep ⊢
  try dsimp only [cQ] at hstep
  repeat' (first|refine go ?_|refine HK a6 FS ?_|(apply aW;refine aV ?_)|fail)
  exact aB (jg+1,q') rfl ⟨by rw [Iv];rfl,trivial⟩ (by dsimp only;omega) (by dsimp only;omega) (fun _ _ h=>by dsimp only;rw [hstep];dsimp only;rw [List.map_append];exact h)
 have hjn:jg=n:=by have:=Ix h;omega
 subst hjn
 clear hstep
 generalize e10:gD s rg.1.length fu.1.length jg k4.2=gl at hgl ⊢
 have hglm:(gl.1.map bC).length=gl.1.length:=It ..
 repeat' (first|refine go ?_|fail)
 refine bg (hc:=⟨zm⟩) ?_
 refine aO (ck (L':=[eF b s ⟨aP U,.vec q4 9 (gl.1.map bC),.vec none 2 [],bQ,.vec none 2 [],.imm 4 (A.1.map cD),.imm 1 (rg.1.map bw),.imm 1 (fu.1.map cR),.imm 1 (aZ cv.1)⟩ gl.2,tB tb]) (List.Sublist.cons_cons _ (List.Sublist.cons_cons _ (List.nil_sublist _)))) ?_
 repeat' (first|refine go ?_|refine ak ?_|refine HK a6 FS ?_)
 have hr16:(aZ fx).length=16:=rfl
 refine aJ [2,3,14] (α:=Nat×Option (Nat×Nat)) (fun x=>[(15,aP x.1)]) (fun x=>x.1≤16) (fun x=>[eF b s ⟨aP U,.vec q4 9 (gl.1.map bC),.vec x.2 2 ((iq s gl.1.length x.1 gl.2).1.map cy),bQ,.vec none 2 [],.imm 4 (A.1.map cD),.imm 1 (rg.1.map bw),.imm 1 (fu.1.map cR),.imm 1 (aZ cv.1)⟩ (iq s gl.1.length x.1 gl.2).2,tB tb]++tok x.2 68 2 ((iq s gl.1.length x.1 gl.2).1.map cy).length) (fun x=>16 - x.1) (0,none) rfl ⟨rfl,trivial⟩ (Nat.zero_le _) (fun _ _ h=>h) ?_
 rintro ⟨jr,q5⟩ hjr
 dsimp only at hjr ⊢
 have hcl2:=vI s gl.1.length jr gl.2
 have hstep:iq s gl.1.length (jr+1) gl.2=(co (dr s 4) fun z=>if 0 < z then co (dr s gl.1.length) fun g=>cQ ((iq s gl.1.length jr gl.2).1++[(⟨fx.getD jr 0,g⟩:eN)]) else cQ (iq s gl.1.length jr gl.2).1) (iq s gl.1.length jr gl.2).2:=rfl
 try dsimp only [Ir,Iq,Ip,Ij]
 repeat' (first|refine go ?_|refine HK a6 FS ?_)
 refine ay rfl (fun h=>?_) (fun h=>?_)
 ·have hj16:jr < 16:=by have:=Iy h;rw [hr16] at this;omega
  have hrn:(aZ fx)[jr]?=some [aP (fx.getD jr 0)]:=bT (lA hj16 0)
  generalize fx.getD jr 0=rn at hrn hstep
  generalize iq s gl.1.length jr gl.2=Ch at hcl2 hstep ⊢
  have hchm:(Ch.1.map cy).length=Ch.1.length:=It ..
  unfold co at hstep
  repeat' (first|refine go ?_|refine ak ?_|refine HK a6 FS ?_)
  refine cS ?_
  generalize dr s 4 Ch.2=z at hstep ⊢
  dsimp only at hstep
  repeat' (first|refine go ?_|refine HK a6 FS ?_)
  refine ay rfl (fun hz=>?_) (fun hz=>?_)
  ·rw [if_pos (Iy hz)] at hstep
   repeat' (first|fail)
   refine dz [.cell (b,4,.vec q5 2 (Ch.1.map cy))] 21 [(0,.v),(1,.v),(2,.v),(3,.v),(4,.v),(5,.k),(6,.v),(7,.v),(8,.v),(9,.v),(10,.v),(11,.v),(12,.v),(13,.v),(14,.v),(15,.l),(16,.v),(17,.f),(18,.v),(19,.v),(20,.e)] none ?_ trivial rfl (by kernel_rfl) (by kernel_rfl) (by kernel_rfl) mixed (by kernel_rfl) rfl
   repeat' (first|refine aC ?_|refine b7 a6 ?_|fail)
   refine eT a6 0 rfl rfl rfl (bU 0 rfl rfl cg) (by first | trivial | rfl) ?_
   repeat' (first|refine aC ?_|refine b7 a6 ?_|(apply bY;refine cn a6 ?_)|refine dt a6 0 rfl rfl rfl rfl (by first|trivial|rfl) ?_)
   rw [hglm]
   refine ff (bU 0 rfl rfl cg) ?_
   generalize dr s gl.1.length z.2=g at hstep ⊢
   try dsimp only [cQ] at hstep
   repeat' (first|refine aC ?_|refine b7 a6 ?_|refine eS a6 ?_|fail)
   refine gB a6 _ rfl rfl rfl rfl (List.perm_append_comm (l₁:=[_,_])) (by simp;omega) (by simp;omega) (by first | trivial | rfl) fun q'=>?_
   refine HU [2,3,14,15,172,192] FS ?_
   refine aO (aK (List.perm_append_comm (l₂:=[_,_]))) ?_
   repeat' (first|refine go ?_|refine HK a6 FS ?_|(apply aW;refine aV ?_)|(apply aG;first|refine HN 6 a6 0 HJ ?_|refine HN 6 a6 1 HJ ?_|refine HN 6 a6 2 HJ ?_|refine HM a6 0 HH ?_|refine HM a6 1 HH ?_|refine HM a6 2 HH ?_|refine HM a6 3 HH ?_|fail))
   exact aB (jr+1,q') rfl ⟨by rw [Iv];rfl,trivial⟩ (by dsimp only;omega) (by dsimp only;omega) (fun _ _ h=>by dsimp only;rw [hstep];dsimp only;rw [List.map_append];exact h)
  ·rw [if_neg (Ix hz)] at hstep
   try dsimp only [cQ] at hstep
   repeat' (first|refine go ?_|refine HK a6 FS ?_|(apply aW;refine aV ?_)|fail)
   exact aB (jr+1,q5) rfl ⟨by rw [Iv];rfl,trivial⟩ (by dsimp only;omega) (by dsimp only;omega) (fun _ _ h=>by dsimp only;rw [hstep];exact h)
 have hj16:jr=16:=by have:=Ix h;rw [hr16] at this;omega
 subst hj16
 clear hstep
 generalize e11:iq s gl.1.length 16 gl.2=ch at hcl2 ⊢
 repeat' (first|refine go ?_|refine HK a6 FS ?_)
 refine aO (bD 0 rfl fun σ vs h=>cC (k:=4) (c':= .imm 2 (ch.1.map cy)) h rfl fun v hv=>VR.im hv) ?_
 refine aO (ck (L':=[eF b s ⟨aP U,.vec q4 9 (gl.1.map bC),.imm 2 (ch.1.map cy),bQ,.vec none 2 [],.imm 4 (A.1.map cD),.imm 1 (rg.1.map bw),.imm 1 (fu.1.map cR),.imm 1 (aZ cv.1)⟩ ch.2]++[tB tb]) (List.Sublist.cons_cons _ (List.Sublist.cons_cons _ (List.nil_sublist _)))) ?_
 refine ba [eF b s ⟨aP U,.vec q4 9 (gl.1.map bC),.imm 2 (ch.1.map cy),bQ,.vec none 2 [],.imm 4 (A.1.map cD),.imm 1 (rg.1.map bw),.imm 1 (fu.1.map cR),.imm 1 (aZ cv.1)⟩ ch.2] [tB tb] (wh s hs ⟨aP U,.vec q4 9 (gl.1.map bC),.imm 2 (ch.1.map cy),bQ,.vec none 2 [],.imm 4 (A.1.map cD),.imm 1 (rg.1.map bw),.imm 1 (fu.1.map cR),.imm 1 (aZ cv.1)⟩ rfl rfl gl.1.length hglm (by omega) b ch.2) rfl rfl (Im _) rfl fun c L1 hL1=>?_
 subst hL1
 have hlk6:=(oT s (n:=gl.1.length) (by omega) ch.2).len
 generalize e12:iW s gl.1.length ch.2=lk at hlk6 ⊢
 have hlkm:(lk.1.map bj).length=lk.1.length:=It ..
 repeat' (first|refine go ?_|fail)
 refine bg (hc:=⟨uE⟩) ?_
 refine aO (aK (L':=[eF b s ⟨aP U,.vec q4 9 (gl.1.map bC),.imm 2 (ch.1.map cy),.imm 3 (lk.1.map bj),.vec none 2 [],.imm 4 (A.1.map cD),.imm 1 (rg.1.map bw),.imm 1 (fu.1.map cR),.imm 1 (aZ cv.1)⟩ lk.2,tB tb]) (Im _)) ?_
 repeat' (first|refine go ?_|refine ak ?_|refine HK a6 FS ?_)
 have hn8:(gg eG).length=8:=rfl
 refine aJ [2,3,16] (α:=Nat×Option (Nat×Nat)) (fun x=>[(17,aP x.1)]) (fun x=>x.1≤8) (fun x=>[eF b s ⟨aP U,.vec q4 9 (gl.1.map bC),.imm 2 (ch.1.map cy),.imm 3 (lk.1.map bj),.vec x.2 2 ((iu s lk.1.length x.1 lk.2).1.map bt),.imm 4 (A.1.map cD),.imm 1 (rg.1.map bw),.imm 1 (fu.1.map cR),.imm 1 (aZ cv.1)⟩ (iu s lk.1.length x.1 lk.2).2,tB tb]++tok x.2 83 2 ((iu s lk.1.length x.1 lk.2).1.map bt).length) (fun x=>8 - x.1) (0,none) rfl ⟨rfl,trivial⟩ (Nat.zero_le _) (fun _ _ h=>h) ?_
 rintro ⟨jf,q6⟩ hjf
 dsimp only at hjf ⊢
 have hftl:=vS s lk.1.length jf lk.2
 have hstep:iu s lk.1.length (jf+1) lk.2=(co (nS s lk.1.length) fun r=>co (dr s 2) fun z=>cQ (if z=0 then (iu s lk.1.length jf lk.2).1++[(⟨eG.getD jf ByteArray.empty,r⟩:bL)] else (iu s lk.1.length jf lk.2).1)) (iu s lk.1.length jf lk.2).2:=rfl
 try dsimp only [Ir,Iq,Ip,Ij]
 repeat' (first|refine go ?_|refine HK a6 FS ?_)
 refine ay rfl (fun h=>?_) (fun h=>?_)
 ·have hj8:jf < 8:=by have:=Iy h;rw [hn8] at this;omega
  have hnm:(gg eG)[jf]?=some [gO (eG.getD jf ByteArray.empty)]:=vb (lA hj8 ByteArray.empty)
  generalize eG.getD jf ByteArray.empty=nm at hnm hstep
  generalize iu s lk.1.length jf lk.2=Ft at hftl hstep ⊢
  have hftm:(Ft.1.map bt).length=Ft.1.length:=It ..
  unfold co at hstep
  repeat' (first|refine go ?_|refine ak ?_|refine HK a6 FS ?_)
  refine bH (bf (t:=18) (c':= .vec none 1 []) rfl fun σ v h=>cq 1 h) ?_
  refine aJ [2,3,16,17] (α:=Nat×Option (Nat×Nat)) (fun x=>[(19,aP x.1),(18,.vec x.2 1 (aZ (nS s x.1 Ft.2).1))]) (fun x=>x.1≤lk.1.length) (fun x=>[eF b s ⟨aP U,.vec q4 9 (gl.1.map bC),.imm 2 (ch.1.map cy),.imm 3 (lk.1.map bj),.vec q6 2 (Ft.1.map bt),.imm 4 (A.1.map cD),.imm 1 (rg.1.map bw),.imm 1 (fu.1.map cR),.imm 1 (aZ cv.1)⟩ (nS s x.1 Ft.2).2,tB tb]++(tok x.2 3 1 (aZ (nS s x.1 Ft.2).1).length++tok q6 83 2 (Ft.1.map bt).length)) (fun x=>lk.1.length - x.1) (0,none) rfl ⟨rfl,rfl,trivial⟩ (Nat.zero_le _) (fun _ _ h=>h) ?_
  rintro ⟨a,q7⟩ ha
  dsimp only at ha ⊢
  have hal7:=Ai s a Ft.2
  have hst7:nS s (a+1) Ft.2=(co (dr s 3) fun z=>cQ (if z=0 then (nS s a Ft.2).1++[(a:Int)] else (nS s a Ft.2).1)) (nS s a Ft.2).2:=rfl
  try dsimp only [Ir,Iq,Ip,Ij]
  repeat' (first|refine go ?_|refine HK a6 FS ?_|(apply bK;first|refine HO a6 0 HG ?_|refine HO a6 1 HG ?_|refine HO a6 2 HG ?_|refine HO a6 3 HG ?_|refine HP a6 0 HG ?_|refine HP a6 1 HG ?_|refine HP a6 2 HG ?_|refine HR a6 1 HE (by assumption) rfl ?_|refine HR a6 0 HE (by assumption) rfl ?_|fail)|fail)
  refine ay rfl (fun h=>?_) (fun h=>?_)
  ·have hal:a < lk.1.length:=by have:=Iy h;rw [hlkm] at this;omega
   generalize nS s a Ft.2=As at hal7 hst7 ⊢
   have hasm:(aZ As.1).length=As.1.length:=aQ _
   unfold co at hst7
   repeat' (first|refine go ?_|refine ak ?_|refine HK a6 FS ?_)
   refine cS ?_
   generalize dr s 3 As.2=z at hst7 ⊢
   dsimp only [cQ] at hst7
   repeat' (first|refine go ?_|refine HK a6 FS ?_)
   refine ay rfl (fun hz=>?_) (fun hz=>?_)
   ·rw [if_pos (Iy hz)] at hst7
    repeat' (first|refine go ?_|refine HK a6 FS ?_|refine bG a6 ?_|fail)
    refine bB a6 _ rfl rfl rfl rfl (fi (A:=[_,_])) (by simp [aQ];omega) (by simp [aQ];omega) rfl fun q'=>?_
    refine aO (aK (fi (A:=[_,_])).symm) ?_
    repeat' (first|refine go ?_|refine HK a6 FS ?_|(apply aW;refine aV ?_)|fail)
    exact aB (a+1,q') rfl ⟨by rw [Iv];rfl,by rw [hst7];dsimp only;rw [show aZ (As.1++[(a:Int)])=aZ As.1++[[aP (a:Int)]] from List.map_append ..];rfl,trivial⟩ (by dsimp only;omega) (by dsimp only;omega) (fun _ _ h=>by dsimp only;rw [hst7];dsimp only;rw [show aZ (As.1++[(a:Int)])=aZ As.1++[[aP (a:Int)]] from List.map_append ..];exact h)
   ·rw [if_neg (Ix hz)] at hst7
    repeat' (first|refine go ?_|refine HK a6 FS ?_|(apply aW;refine aV ?_)|fail)
    exact aB (a+1,q7) rfl ⟨by rw [Iv];rfl,by rw [hst7];rfl,trivial⟩ (by dsimp only;omega) (by dsimp only;omega) (fun _ _ h=>by dsimp only;rw [hst7];exact h)
  have hal:a=lk.1.length:=by have:=Ix h;rw [hlkm] at this;omega
  subst hal
  clear hst7
  generalize nS s lk.1.length Ft.2=As at hal7 hstep ⊢
  dsimp only at hstep
  repeat' (first|refine go ?_|refine HK a6 FS ?_)
  refine aO (bf (t:=18) (c':= .imm 1 (aZ As.1)) rfl fun σ v h=>VR.im h) ?_
  refine aO (ck (L':=[eF b s ⟨aP U,.vec q4 9 (gl.1.map bC),.imm 2 (ch.1.map cy),.imm 3 (lk.1.map bj),.vec q6 2 (Ft.1.map bt),.imm 4 (A.1.map cD),.imm 1 (rg.1.map bw),.imm 1 (fu.1.map cR),.imm 1 (aZ cv.1)⟩ As.2,tB tb]++tok q6 83 2 (Ft.1.map bt).length) (List.Sublist.cons_cons _ (List.Sublist.cons_cons _ (List.sublist_append_right _ _)))) ?_
  refine cS ?_
  generalize dr s 2 As.2=z at hstep ⊢
  dsimp only [cQ] at hstep
  repeat' (first|refine go ?_|refine HK a6 FS ?_)
  refine ay rfl (fun hz=>?_) (fun hz=>?_)
  ·rw [if_pos (Iy hz)] at hstep
   repeat' (first|fail)
   refine bn 14 [(0,.v),(1,.v),(2,.v),(3,.v),(4,.v),(5,.l),(6,.v),(7,.v),(8,.v),(9,.v),(10,.v),(11,.v),(12,.v),(13,.e)] none ?_ trivial rfl (by kernel_rfl) (by kernel_rfl) (by kernel_rfl) mixed (by kernel_rfl) rfl
   repeat' (first|refine aC ?_|refine b7 a6 ?_|(apply bY;refine cn a6 ?_)|refine eS a6 ?_|refine dt a6 0 rfl rfl rfl rfl (by first|trivial|rfl) ?_)
   refine gB a6 _ rfl rfl rfl rfl (List.perm_append_comm (l₁:=[_,_])) (by simp;omega) (by simp;omega) (by first | trivial | rfl) fun q'=>?_
   refine HU [2,3,16,17,225,238] FS ?_
   refine aO (aK (List.perm_append_comm (l₂:=[_,_]))) ?_
   repeat' (first|refine go ?_|refine HK a6 FS ?_|(apply aW;refine aV ?_)|(apply aG;first|refine HN 6 a6 0 HJ ?_|refine HN 6 a6 1 HJ ?_|refine HN 6 a6 2 HJ ?_|refine HM a6 0 HH ?_|refine HM a6 1 HH ?_|refine HM a6 2 HH ?_|refine HM a6 3 HH ?_|fail))
   exact aB (jf+1,q') rfl ⟨by rw [Iv];rfl,trivial⟩ (by dsimp only;omega) (by dsimp only;omega) (fun _ _ h=>by dsimp only;rw [hstep];dsimp only;rw [List.map_append];exact h)
  ·rw [if_neg (Ix hz)] at hstep
   repeat' (first|refine go ?_|refine HK a6 FS ?_|(apply aW;refine aV ?_)|fail)
   exact aB (jf+1,q6) rfl ⟨by rw [Iv];rfl,trivial⟩ (by dsimp only;omega) (by dsimp only;omega) (fun _ _ h=>by dsimp only;rw [hstep];exact h)
 have hj8:jf=8:=by have:=Ix h;rw [hn8] at this;omega
 subst hj8
 clear hstep
 generalize e13:iu s lk.1.length 8 lk.2=ft at hftl ⊢
 repeat' (first|refine go ?_|refine HK a6 FS ?_|(apply bK;first|refine HO a6 0 HG ?_|refine HO a6 1 HG ?_|refine HO a6 2 HG ?_|refine HO a6 3 HG ?_|refine HP a6 0 HG ?_|refine HP a6 1 HG ?_|refine HP a6 2 HG ?_|refine HR a6 1 HE (by assumption) rfl ?_|refine HR a6 0 HE (by assumption) rfl ?_|fail)|(apply aG;first|refine HN 6 a6 0 HJ ?_|refine HN 6 a6 1 HJ ?_|refine HN 6 a6 2 HJ ?_|refine HM a6 0 HH ?_|refine HM a6 1 HH ?_|refine HM a6 2 HH ?_|refine HM a6 3 HH ?_|fail))
 have hv:nh s=⟨U,gl.1,ch.1,lk.1,ft.1,A.1,rg.1,fu.1,cv.1⟩:=by
  unfold nh Bv co
  rw [e1]
  try dsimp only
  rw [e2]
  try dsimp only
  rw [hkk,Int.toNat_natCast,e3]
  try dsimp only
  rw [e4,e5]
  try dsimp only
  rw [hkk2,Int.toNat_natCast,e6]
  try dsimp only
  rw [e7]
  try dsimp only
  rw [hkk3,Int.toNat_natCast,e8]
  try dsimp only
  rw [e9]
  try dsimp only
  rw [hkk4,Int.toNat_natCast,e10]
  try dsimp only
  rw [e11]
  try dsimp only
  rw [e12]
  try dsimp only
  rw [e13,hU]
  rfl
 rw [hv]
 exact bc (bD 1 (cs':=cb ⟨U,gl.1,ch.1,lk.1,ft.1,A.1,rg.1,fu.1,cv.1⟩) rfl fun σ vs h=>nN.vrs (a:=[aP U,.vec q4 9 (gl.1.map bC),.imm 2 (ch.1.map cy),.imm 3 (lk.1.map bj),.vec q6 2 (ft.1.map bt),.imm 4 (A.1.map cD),.imm 1 (rg.1.map bw),.imm 1 (fu.1.map cR),.imm 1 (aZ cv.1)]) (b:=cb ⟨U,gl.1,ch.1,lk.1,ft.1,A.1,rg.1,fu.1,cv.1⟩) ⟨dH.refl _,dH.im,dH.refl _,dH.refl _,dH.im,dH.refl _,dH.refl _,dH.refl _,dH.refl _,trivial⟩ h) (jb a6 1 [] rfl rfl rfl rfl rfl (List.nil_sublist _) rfl)
end Go.Proofs.YtjjpkibjffmceaaGreat
namespace Go.Proofs.YtjjpkibjffmceaaGreat
open Go.RowKit
attribute [local irreducible] AT bW AX AO Av Kt bA eI DA dl
theorem zn:EH Tryz.prog 22 [] 3 1 (aZ fx):=by
 refine aS Tryz.func22 rfl Tryz.ntmps22 rfl fun B=>?_
 repeat' (first|refine go ?_|refine HK a6 FS ?_|refine ji (d:=1) a6 fun _=>?_|fail)
 exact HS FS ⟨_,rfl,rfl⟩
section
variable {P:Program} {tt:TT} {r:Option Nat} {ops:Array Oper} {Q:Exit→Act→World→Prop} {nt:Nat} {D:List Deferred} {fr:cu} {B:Bs} {L:AL} {rest:List Oper} {d:Nat} {ty t:TypeId} {pos:String} {af:Array Edge} {x y:Operand} {u:AV}
theorem Fx (ok:fp P tt) (hi:Nat) {e sz by_ s:Nat} {l1:List (List AV)} {q:IntKind} {a:Int} (ht:nH tt t=some (e,sz,by_)) (hx:bO fr x=some u) (hu:j9 u=some (s,l1)) (hs:Nat.beq s sz=true) (hy:bO fr y=some (.sc (.int q a))) (ha:a=(hi:Int)) (h1:hi≤l1.length) (hd:Nat.ble nt d=false) (h:bW P r ops Q nt D rest ((d,.imm s (l1.take hi))::fr) B L):bW P r ops Q nt D (⟨some d,.slice t x none (some y) none,ty,pos,af,none⟩::rest) fr B L:=dX (zR (cf ok ht).1 hx (dm hu) hs hy ha h1) hd rfl h
end
theorem yu (l:List Int) (k:Nat):(aZ l).take k=aZ (l.take k):=by simp [aZ]
def Hu (z:Int):Int:=gJ.getD (z % 17).toNat 0
def EC (f:aL) (l:List Int):Nat→List ByteArray
 | 0=>[]
 | k+1=>EC f l k++(match f.Features[k]?,l[k]? with | some t,some z=>if z.tmod 3≠0 then [t.Name] else [] | _,_=>[])
def Ht (bs:List Int):List Int:=GQ (bs.take 40)
def Hs (f:aL) (bs:List Int):List ByteArray:=EC f bs f.Features.length
def GY (ns:List Int):aL:=nh (ns.take 300)
theorem Ci (a:List ByteArray) (x:ByteArray):gg (a++[x])=gg a++[[gO x]]:=by simp [gg]
end Go.Proofs.YtjjpkibjffmceaaGreat
namespace Go.Proofs.YtjjpkibjffmceaaGreat
open Go.RowKit
attribute [local irreducible] AT bW AX AO Av Kt bA eI DA dl
theorem Cq:∀z∈gJ,nU z=false:=by decide
end Go.Proofs.YtjjpkibjffmceaaGreat
