/-
  The maker: fonts.
-/
import Derived.Test.YtpmdfoaadejmkaaGreatDoorM40
namespace Go.Proofs.YtpmdfoaadejmkaaGreatDoor
open Go.RowKit
attribute [local irreducible] AT bP AX AO Av Kt bb dh DA cG
variable (s:List Int) (hs:s.length≤1000000)
theorem G1 {a c:Nat×AB} {T:AL}:([a,c]++T).Perm (([a]++(T++[]))++[c]):=by
 rw [List.append_nil]
 exact List.Perm.cons a (List.perm_append_comm (l₁:=[c]))
theorem LB {A T:AL} {c:Nat×AB}:((A++T)++[c]).Perm ((A++[c])++T):=by
 rw [List.append_assoc,List.append_assoc]
 exact List.Perm.append_left _ List.perm_append_comm
theorem D6:bV Tryz.prog 92 [] (.imm 1 (aW iz)):=by
 refine aV Tryz.func92 rfl Tryz.ntmps92 rfl fun B=>?_
 refine W0g ?_
 exact NQ NA
theorem wY:bV Tryz.prog 94 [] (.imm 1 (Dg hZ)):=by
 refine aV Tryz.func94 rfl Tryz.ntmps94 rfl fun B=>?_
 refine W0g ?_
 exact NQ NA
theorem tj (k:Nat) (m:MS):(lU s k m).1.length=k:=by
 exact (c9.runs (fun i (l:List ej)=>l.length=i) k rfl fun i l _ h=>(c9.any _).bnd fun a _=>(c9.any _).bnd fun b _=>c9.ret (by simp [h])) m
theorem zK (k:Nat) (m:MS):(j5 s k m).1.length=k:=by
 exact (c9.runs (fun i (l:List ev)=>l.length=i) k rfl fun i l _ h=>(c9.any _).bnd fun a _=>c9.ret (by simp [h])) m
theorem u3 (x k:Nat) (m:MS):(lD s x k m).1.length=k:=by
 exact (c9.runs (fun i (l:List (List ev))=>l.length=i) k rfl fun i l _ h=>(c9.any _).bnd fun a _=>c9.ret (by simp [h])) m
theorem yA (k:Nat) (m:MS):(jE s k m).1.length=k:=by
 exact (c9.runs (fun i (l:List (List fh))=>l.length=i) k rfl fun i l _ h=>(c9.any _).bnd fun a _=>(c9.any _).bnd fun b _=>c9.ret (by simp [h])) m
theorem Eu (k:Nat) (m:MS):(rJ s k m).1.length=k:=by
 exact (c9.runs (fun i (l:List Int)=>l.length=i) k rfl fun i l _ h=>(c9.any _).bnd fun a _=>c9.ret (by simp [h])) m
theorem wB (R fn k:Nat) (m:MS):(hQ s R fn k m).1.length=k:=by
 exact (c9.runs (fun i (l:List bj)=>l.length=i) k rfl fun i l _ h=>(c9.any _).bnd fun a _=>c9.ret (by simp [h])) m
theorem yc (n:Int) (k:Nat) (m:MS):(iY s n k m).1.length≤k:=by
 exact (c9.runs (fun i (l:List gu)=>l.length≤i) k (Nat.le_refl _) fun i l _ h=>(c9.any _).bnd fun a _=>c9.ite (fun _=>(c9.any _).bnd fun b _=>c9.ret (by simp;omega)) fun _=>c9.ret (by omega)) m
theorem E6 (k:Nat) (m:MS):(pp s k m).1.length≤k:=by
 exact (c9.runs (fun i (l:List Int)=>l.length≤i) k (Nat.le_refl _) fun i l _ h=>(c9.any _).bnd fun a _=>c9.ret (by
  split
  ·simp;omega
  ·omega)) m
theorem yn (n k:Nat) (m:MS):(j1 s n k m).1.length≤k:=by
 exact (c9.runs (fun i (l:List c6)=>l.length≤i) k (Nat.le_refl _) fun i l _ h=>(c9.any _).bnd fun a _=>(c9.any _).bnd fun b _=>c9.ret (by
  split
  ·simp;omega
  ·omega)) m
abbrev tB (tb:Nat):Nat×AB:=(tb,.box [aK 0,bZ,bZ,bZ,bZ,bZ,bZ,bZ,bZ] 32)
include hs
set_option maxHeartbeats 32000000 in
theorem Fz:bV Tryz.prog 32 [.imm 1 (aW s)] (ca (s9 s)):=by
 refine aV Tryz.func32 rfl Tryz.ntmps32 rfl fun B=>?_
 repeat' (first|refine Ng ?_|refine NG a5 IG ?_|refine wV (d:=22) fun _=>?_|refine bn a5 fun _=>?_|refine bM a5 ?_|fail)
 rename_i tb b
 refine aL (aQ (L':=[eC b s ⟨aK 0,bZ,bZ,bZ,bZ,bZ,bZ,bZ,bZ⟩ ⟨0,0⟩,tB tb]) (Nn _)) ?_
 refine aL (bL 0 (cs':=Lv s ⟨aK 0,.vec none 9 [],.vec none 2 [],bZ,.vec none 2 [],.vec none 4 [],.vec none 1 [],.vec none 1 [],.vec none 1 []⟩ ⟨0,0⟩) rfl fun σ vs h=>cN (k:=3) (cN (k:=4) (cN (k:=6) (cN (k:=7) (cN (k:=8) (cN (k:=9) (cN (k:=10) h rfl fun v hv=>cW 1 hv) rfl fun v hv=>cW 1 hv) rfl fun v hv=>cW 1 hv) rfl fun v hv=>cW 4 hv) rfl fun v hv=>cW 2 hv) rfl fun v hv=>cW 2 hv) rfl fun v hv=>cW 9 hv) ?_
 refine cS ?_
 have hu:=cH s hs 0 (n:=4) (by omega)
 have hu:0≤(dr s 4 ⟨0,0⟩).1∧(dr s 4 ⟨0,0⟩).1 < 4:=hu
 generalize e1:dr s 4 ⟨0,0⟩=u at hu ⊢
 have hul:(aW nX)[u.1.toNat]?=some [aK (nX.getD u.1.toNat 0)]:=bK (mN (by simp only [nX,List.length_cons,List.length_nil];omega) 0)
 generalize hU:nX.getD u.1.toNat 0=U at hul
 repeat' (first|refine Ng ?_|refine NG a5 IG ?_|(apply aO;first|refine aN a5 ?_|refine aF a5 ?_)|(apply aI;first|refine NI 6 a5 0 NF ?_|refine NI 6 a5 1 NF ?_|refine NI 6 a5 2 NF ?_|refine NH a5 0 NE ?_|refine NH a5 1 NE ?_|refine NH a5 2 NE ?_|refine NH a5 3 NE ?_|fail))
 refine aL (aQ (L':=[eC b s ⟨aK U,.vec none 9 [],.vec none 2 [],bZ,.vec none 2 [],.vec none 4 [],.vec none 1 [],.vec none 1 [],.vec none 1 []⟩ u.2,tB tb]) (Nn _)) ?_
 refine cS ?_
 have hk:=cH s hs u.2.a (n:=3) (by omega)
 have hk:0≤(dr s 3 u.2).1∧(dr s 3 u.2).1 < 3:=hk
 generalize e2:dr s 3 u.2=k1 at hk ⊢
 obtain ⟨k,hkk⟩:∃k:Nat,k1.1=k:=⟨k1.1.toNat,by omega⟩
 rw [hkk]
 refine W03 ?_
 refine aM [2,3,4] (α:=Nat×Option (Nat×Nat)) (fun x=>[(5,aK x.1)]) (fun x=>x.1≤k) (fun x=>[eC b s ⟨aK U,.vec none 9 [],.vec none 2 [],bZ,.vec none 2 [],.vec x.2 4 ((lU s x.1 k1.2).1.map cO),.vec none 1 [],.vec none 1 [],.vec none 1 []⟩ (lU s x.1 k1.2).2,tB tb]++tok x.2 123 4 ((lU s x.1 k1.2).1.map cO).length) (fun x=>k - x.1) (0,none) rfl ⟨rfl,trivial⟩ (Nat.zero_le _) (fun _ _ h=>h) ?_
 rintro ⟨i,q⟩ hi
 dsimp only at hi ⊢
 have hal:=tj s i k1.2
 have hstep:lU s (i+1) k1.2=(cm (dr s 3) fun a=>cm (dr s 4) fun b=>cQ ((lU s i k1.2).1++[(⟨mp BA i,0 - a * 100,0,b * 100⟩:ej)])) (lU s i k1.2).2:=rfl
 try dsimp only [Ns,Nr,Nq,Nk]
 refine W01 ?_
 refine aj rfl (fun h=>?_) (fun h=>?_)
 ·have hil:i < k:=by have:=Ny h;omega
  generalize lU s i k1.2=A at hal hstep ⊢
  have halm:(A.1.map cO).length=A.1.length:=Nu ..
  refine W0n ?_
  refine bv 15 [(0,.v),(1,.v),(2,.v),(3,.v),(4,.v),(5,.v),(6,.v),(10,.v),(7,.e),(8,.v),(9,.v),(11,.e),(12,.v),(13,.v)] (some (14,.box _ 123)) ?_ ⟨_,rfl,rfl,fun _ _ _=>kq (dX a5 rfl) rfl⟩ rfl (by kernel_rfl) (by kernel_rfl) (by kernel_rfl) bQ (by kernel_rfl) rfl
  refine W0x ?_
  refine Ey a5 ?_
  rw [wJ i (by omega)]
  refine W0M ?_
  refine Ad a5 ?_
  rw [Aw i (by omega)]
  repeat' (first|refine aD ?_|fail)
  refine IW (hs:=Nat.le_of_ble_eq_true rfl) ?_
  rw [BH]
  refine W09 ?_
  refine uH ?_
  have ha:=cH s hs A.2.a (n:=3) (by omega)
  have ha:0≤(dr s 3 A.2).1∧(dr s 3 A.2).1 < 3:=ha
  unfold cm at hstep
  generalize dr s 3 A.2=a at ha hstep ⊢
  dsimp only at hstep
  refine W1j ?_
  refine uH ?_
  have hc:=cH s hs a.2.a (n:=4) (by omega)
  have hc:0≤(dr s 4 a.2).1∧(dr s 4 a.2).1 < 4:=hc
  generalize dr s 4 a.2=c at hc hstep ⊢
  try dsimp only [cQ] at hstep
  refine W0x ?_
  refine r7 [2,3,4,5,6,52] (fun _=>_) (fun _=>rfl) rfl fun _=>?_
  rename_i ab
  refine aL (aQ (LB (A:=[_,_]))) ?_
  repeat' (first|refine Ng ?_|(apply aI;first|refine NI 6 a5 0 NF ?_|refine NI 6 a5 1 NF ?_|refine NI 6 a5 2 NF ?_|refine NH a5 0 NE ?_|refine NH a5 1 NE ?_|refine NH a5 2 NE ?_|refine NH a5 3 NE ?_|fail))
  refine bv 9 [(0,.v),(1,.v),(2,.v),(3,.v),(4,.v),(5,.l),(6,.v),(7,.v),(8,.e)] none ?_ trivial rfl (by kernel_rfl) (by kernel_rfl) (by kernel_rfl) bQ (by kernel_rfl) rfl
  refine W1y ?_
  refine dP a5 _ rfl rfl rfl rfl (List.perm_append_comm (l₁:=[_,_])) (by simp;omega) (by simp;omega) (by first | trivial | rfl) fun q'=>?_
  refine NP [2,3,4,5,53,61] IG ?_
  refine aL (aQ (List.perm_append_comm (l₂:=[_,_]))) ?_
  refine W0j ?_
  exact aC (i+1,q') rfl ⟨by rw [Nv];rfl,trivial⟩ (by dsimp only;omega) (by dsimp only;omega) (fun _ _ h=>by dsimp only;rw [hstep];dsimp only;rw [List.map_append];exact h)
 have hil:i=k:=by have:=Nx h;omega
 subst hil
 clear hstep
 have hal:=tj s i k1.2
 generalize e3:lU s i k1.2=A at hal ⊢
 refine W01 ?_
 refine bU (bL 0 rfl fun σ vs h=>cN (k:=7) (c':= .imm 4 (A.1.map cO)) h rfl fun v hv=>VR.im hv) ?_
 refine bU (bF (L':=[eC b s ⟨aK U,.vec none 9 [],.vec none 2 [],bZ,.vec none 2 [],.imm 4 (A.1.map cO),.vec none 1 [],.vec none 1 [],.vec none 1 []⟩ A.2,tB tb]) (List.Sublist.cons_cons _ (List.Sublist.cons_cons _ (List.nil_sublist _)))) ?_
 refine uD [2,3,4] ([eC b s ⟨aK U,.vec none 9 [],.vec none 2 [],bZ,.vec none 2 [],.imm 4 (A.1.map cO),.imm 1 ((gB s i A.2).1.map bX),.vec none 1 [],.vec none 1 []⟩ (gB s i A.2).2,tB tb]) rfl (fun Q' K=>?_) ?_
 ·refine aj rfl (fun h=>?_) (fun h=>?_)
  ·have hi0:¬i=0:=by have:=Ny h;omega
   refine W01 ?_
   refine cS ?_
   have hn:=cH s hs A.2.a (n:=4) (by omega)
   have hn:0≤(dr s 4 A.2).1∧(dr s 4 A.2).1 < 4:=hn
   generalize e4:dr s 4 A.2=n1 at hn ⊢
   obtain ⟨n,hnn⟩:∃k:Nat,n1.1=k:=⟨n1.1.toNat,by omega⟩
   have hv:gB s i A.2=lD s i n n1.2:=by
    unfold gB
    rw [if_neg hi0]
    unfold cm
    rw [e4]
    dsimp only
    rw [hnn,Int.toNat_natCast]
   rw [hv] at K
   rw [hnn]
   refine W03 ?_
   refine aM [2,3,4,7] (α:=Nat×Option (Nat×Nat)) (fun x=>[(8,aK x.1)]) (fun x=>x.1≤n) (fun x=>[eC b s ⟨aK U,.vec none 9 [],.vec none 2 [],bZ,.vec none 2 [],.imm 4 (A.1.map cO),.vec x.2 1 ((lD s i x.1 n1.2).1.map bX),.vec none 1 [],.vec none 1 []⟩ (lD s i x.1 n1.2).2,tB tb]++tok x.2 128 1 ((lD s i x.1 n1.2).1.map bX).length) (fun x=>n - x.1) (0,none) rfl ⟨rfl,trivial⟩ (Nat.zero_le _) (fun _ _ h=>h) ?_
   rintro ⟨j,q⟩ hj
   dsimp only at hj ⊢
   have hrl:=u3 s i j n1.2
   have hstep:lD s i (j+1) n1.2=((lD s i j n1.2).1++[(j5 s i (lD s i j n1.2).2).1],(j5 s i (lD s i j n1.2).2).2):=rfl
   try dsimp only [Ns,Nr,Nq,Nk]
   refine W01 ?_
   refine aj rfl (fun h=>?_) (fun h=>?_)
   ·have hjn:j < n:=by have:=Ny h;omega
    generalize lD s i j n1.2=Rg at hrl hstep ⊢
    have hrlm:(Rg.1.map bX).length=Rg.1.length:=Nu ..
    repeat' (first|refine Ng ?_|refine ak ?_|refine NG a5 IG ?_|refine bn a5 fun _=>?_|fail)
    rename_i rb
    refine bU (bL 0 (cs':=[.vec none 3 []]) rfl fun σ vs h=>cN (k:=0) h rfl fun v hv=>cW 3 hv) ?_
    refine bU (aQ (List.perm_middle (l₁:=[_,_])).symm) ?_
    refine aM [2,3,4,7,8,9] (α:=Nat×Option (Nat×Nat)) (fun x=>[(10,aK x.1)]) (fun x=>x.1≤i) (fun x=>[eC b s ⟨aK U,.vec none 9 [],.vec none 2 [],bZ,.vec none 2 [],.imm 4 (A.1.map cO),.vec q 1 (Rg.1.map bX),.vec none 1 [],.vec none 1 []⟩ (j5 s x.1 Rg.2).2,tB tb,(rb,.box [.vec x.2 3 ((j5 s x.1 Rg.2).1.map iL)] 128)]++(tok x.2 125 3 ((j5 s x.1 Rg.2).1.map iL).length++tok q 128 1 (Rg.1.map bX).length)) (fun x=>i - x.1) (0,none) rfl ⟨rfl,trivial⟩ (Nat.zero_le _) (fun _ _ h=>h) ?_
    rintro ⟨a,qt⟩ ha
    dsimp only at ha ⊢
    have htl:=zK s a Rg.2
    have hstt:j5 s (a+1) Rg.2=(cm (dr s 5) fun z=>cQ ((j5 s a Rg.2).1++[lq.getD z.toNat ⟨0,0,0⟩])) (j5 s a Rg.2).2:=rfl
    try dsimp only [Ns,Nr,Nq,Nk]
    refine W01 ?_
    refine aj rfl (fun h=>?_) (fun h=>?_)
    ·have hai:a < i:=by have:=Ny h;omega
     generalize j5 s a Rg.2=Tn at htl hstt ⊢
     have htlm:(Tn.1.map iL).length=Tn.1.length:=Nu ..
     refine W0n ?_
     refine dM [.cell (rb,0,.vec qt 3 (Tn.1.map iL))] 13 [(0,.v),(1,.k),(2,.v),(3,.v),(4,.v),(5,.v),(6,.v),(7,.v),(8,.v),(9,.f),(10,.v),(11,.v),(12,.v)] none ?_ trivial rfl (by kernel_rfl) (by kernel_rfl) (by kernel_rfl) bQ (by kernel_rfl) rfl
     refine W09 ?_
     refine eo a5 0 rfl rfl rfl (c5 2 rfl rfl ci) (by first | trivial | rfl) ?_
     refine W0V ?_
     refine f8 (c5 2 rfl rfl ci) ?_
     have hz:=cH s hs Tn.2.a (n:=5) (by omega)
     have hz:0≤(dr s 5 Tn.2).1∧(dr s 5 Tn.2).1 < 5:=hz
     unfold cm at hstt
     generalize dr s 5 Tn.2=z at hz hstt ⊢
     dsimp only [cQ] at hstt
     have hzt:(lq.map iL)[z.1.toNat]?=some (iL (lq.getD z.1.toNat ⟨0,0,0⟩)):=by
      rw [List.getElem?_map,mN (l:=lq) (i:=z.1.toNat) (by simp only [lq,List.length_cons,List.length_nil];omega) ⟨0,0,0⟩]
      rfl
     generalize lq.getD z.1.toNat ⟨0,0,0⟩=tn at hzt hstt
     refine W1o ?_
     refine NP [2,3,4,7,8,9,10,80,91] IG ?_
     refine NS a5 _ NB (ff (A:=[_,_,_])) (by simp;omega) (by simp;omega) rfl fun q'=>?_
     refine aL (aQ (ff (A:=[_,_,_])).symm) ?_
     refine W0j ?_
     exact aC (a+1,q') rfl ⟨by rw [Nv];rfl,trivial⟩ (by dsimp only;omega) (by dsimp only;omega) (fun _ _ h=>by dsimp only;rw [hstt];dsimp only;rw [List.map_append];exact h)
    have hai:a=i:=by have:=Nx h;omega
    subst hai
    clear hstt htl
    generalize j5 s a Rg.2=Tn at hstep ⊢
    repeat' (first|refine Ng ?_|fail)
    refine bU (bL 2 (cs':=[.imm 3 (Tn.1.map iL)]) rfl fun σ vs h=>cN (k:=0) h rfl fun v hv=>VR.im hv) ?_
    refine bU (bF (L':=[eC b s ⟨aK U,.vec none 9 [],.vec none 2 [],bZ,.vec none 2 [],.imm 4 (A.1.map cO),.vec q 1 (Rg.1.map bX),.vec none 1 [],.vec none 1 []⟩ Tn.2,tB tb,(rb,.box (bX Tn.1) 128)]++tok q 128 1 (Rg.1.map bX).length) (List.Sublist.cons_cons _ (List.Sublist.cons_cons _ (List.Sublist.cons_cons _ (List.sublist_append_right _ _))))) ?_
    refine bv 9 [(0,.v),(1,.v),(2,.v),(3,.v),(4,.v),(5,.l),(6,.l),(7,.v),(8,.e)] none ?_ trivial rfl (by kernel_rfl) (by kernel_rfl) (by kernel_rfl) bQ (by kernel_rfl) rfl
    refine W0m ?_
    refine r5 a5 2 rfl rfl rfl rfl (by first | trivial | rfl) ?_
    refine W0M ?_
    refine dP a5 _ rfl rfl rfl rfl (List.perm_append_comm (l₁:=[_,_,_])) (by simp;omega) (by simp;omega) (by first | trivial | rfl) fun q'=>?_
    refine NP [2,3,4,7,8,94,102] IG ?_
    refine aL (aQ (List.perm_append_comm (l₂:=[_,_,_]))) ?_
    refine W0j ?_
    exact aC (j+1,q') rfl ⟨by rw [Nv];rfl,trivial⟩ (by dsimp only;omega) (by dsimp only;omega) (fun _ _ h=>by dsimp only;rw [hstep];dsimp only;rw [List.map_append];exact h.sublist (List.Sublist.cons_cons _ (List.Sublist.cons_cons _ (List.sublist_cons_self ..))))
   have hjn:j=n:=by have:=Nx h;omega
   subst hjn
   generalize lD s i j n1.2=Rg at K ⊢
   repeat' (first|refine Ng ?_|fail)
   refine bf (bL 0 rfl fun σ vs h=>cN (k:=8) (c':= .imm 1 (Rg.1.map bX)) h rfl fun v hv=>VR.im hv) ?_
   refine bf (bF (L':=[eC b s ⟨aK U,.vec none 9 [],.vec none 2 [],bZ,.vec none 2 [],.imm 4 (A.1.map cO),.imm 1 (Rg.1.map bX),.vec none 1 [],.vec none 1 []⟩ Rg.2,tB tb]) (List.Sublist.cons_cons _ (List.Sublist.cons_cons _ (List.nil_sublist _)))) ?_
   exact K _ rfl
  ·have hi0:i=0:=by have:=Nx h;omega
   have hv:gB s i A.2=([],A.2):=by
    unfold gB
    rw [if_pos hi0]
    rfl
   rw [hv] at K
   repeat' (first|refine Ng ?_|fail)
   refine bf (bL 0 rfl fun σ vs h=>cN (k:=8) (c':= .imm 1 []) h rfl fun v hv=>VR.im hv) ?_
   exact K _ rfl
 generalize e4:gB s i A.2=rg
 refine W01 ?_
 refine cS ?_
 have hk2:=cH s hs rg.2.a (n:=3) (by omega)
 have hk2:0≤(dr s 3 rg.2).1∧(dr s 3 rg.2).1 < 3:=hk2
 generalize e5:dr s 3 rg.2=k2 at hk2 ⊢
 obtain ⟨k',hkk2⟩:∃k:Nat,k2.1=k:=⟨k2.1.toNat,by omega⟩
 rw [hkk2]
 refine W03 ?_
 refine aM [2,3,4] (α:=Nat×Option (Nat×Nat)) (fun x=>[(11,aK x.1)]) (fun x=>x.1≤k') (fun x=>[eC b s ⟨aK U,.vec none 9 [],.vec none 2 [],bZ,.vec none 2 [],.imm 4 (A.1.map cO),.imm 1 (rg.1.map bX),.vec x.2 1 ((jE s x.1 k2.2).1.map dO),.vec none 1 []⟩ (jE s x.1 k2.2).2,tB tb]++tok x.2 74 1 ((jE s x.1 k2.2).1.map dO).length) (fun x=>k' - x.1) (0,none) rfl ⟨rfl,trivial⟩ (Nat.zero_le _) (fun _ _ h=>h) ?_
 rintro ⟨j,q2⟩ hj
 dsimp only at hj ⊢
 have hfl:=yA s j k2.2
 have hstep:jE s (j+1) k2.2=(cm (iO 0) fun _=>cm (oB s 6 j 4) fun h=>cQ ((jE s j k2.2).1++[h])) (jE s j k2.2).2:=rfl
 try dsimp only [Ns,Nr,Nq,Nk]
 refine W01 ?_
 refine aj rfl (fun h=>?_) (fun h=>?_)
 ·have hjk:j < k':=by have:=Ny h;omega
  generalize jE s j k2.2=Fu at hfl hstep ⊢
  have hflm:(Fu.1.map dO).length=Fu.1.length:=Nu ..
  unfold cm at hstep
  repeat' (first|refine Ng ?_|refine ak ?_|refine NG a5 IG ?_|(apply aI;first|refine NI 6 a5 0 NF ?_|refine NI 6 a5 1 NF ?_|refine NI 6 a5 2 NF ?_|refine NH a5 0 NE ?_|refine NH a5 1 NE ?_|refine NH a5 2 NE ?_|refine NH a5 3 NE ?_|fail))
  refine bU (aQ (L':=[eC b s ⟨aK U,.vec none 9 [],.vec none 2 [],bZ,.vec none 2 [],.imm 4 (A.1.map cO),.imm 1 (rg.1.map bX),.vec q2 1 (Fu.1.map dO),.vec none 1 []⟩ (iO 0 Fu.2).2,tB tb]++tok q2 74 1 (Fu.1.map dO).length) (Nn _)) ?_
  generalize (iO 0 Fu.2).2=w at hstep ⊢
  dsimp only at hstep
  refine dM [.cell (b,9,.vec q2 1 (Fu.1.map dO))] 11 [(0,.v),(1,.v),(2,.v),(3,.v),(4,.v),(5,.k),(6,.v),(7,.v),(8,.f),(9,.v),(10,.e)] none ?_ trivial rfl (by kernel_rfl) (by kernel_rfl) (by kernel_rfl) bQ (by kernel_rfl) rfl
  refine W09 ?_
  refine eo a5 0 rfl rfl rfl (c5 0 rfl rfl ci) (by first | trivial | rfl) ?_
  refine W09 ?_
  refine tr (tQ s hs _ (n:=6) (fn:=(j:Int)) (most:=4) (by omega) (by omega) (by omega)) (c5 0 rfl rfl ci) ?_
  generalize oB s 6 j 4 w=hi at hstep ⊢
  try dsimp only [cQ] at hstep
  unfold ky
  refine W0M ?_
  refine dP a5 _ rfl rfl rfl rfl (List.perm_append_comm (l₁:=[_,_])) (by simp;omega) (by simp;omega) (by first | trivial | rfl) fun q'=>?_
  refine NP [2,3,4,11,116,126] IG ?_
  refine aL (aQ (List.perm_append_comm (l₂:=[_,_]))) ?_
  refine W0j ?_
  exact aC (j+1,q') rfl ⟨by rw [Nv];rfl,trivial⟩ (by dsimp only;omega) (by dsimp only;omega) (fun _ _ h=>by dsimp only;rw [hstep];dsimp only;rw [List.map_append];exact h)
 have hjk:j=k':=by have:=Nx h;omega
 subst hjk
 clear hstep
 generalize e6:jE s j k2.2=fu at hfl ⊢
 refine W01 ?_
 refine aL (bL 0 rfl fun σ vs h=>cN (k:=9) (c':= .imm 1 (fu.1.map dO)) h rfl fun v hv=>VR.im hv) ?_
 refine aL (bF (L':=[eC b s ⟨aK U,.vec none 9 [],.vec none 2 [],bZ,.vec none 2 [],.imm 4 (A.1.map cO),.imm 1 (rg.1.map bX),.imm 1 (fu.1.map dO),.vec none 1 []⟩ fu.2,tB tb]) (List.Sublist.cons_cons _ (List.Sublist.cons_cons _ (List.nil_sublist _)))) ?_
 refine cS ?_
 have hk3:=cH s hs fu.2.a (n:=4) (by omega)
 have hk3:0≤(dr s 4 fu.2).1∧(dr s 4 fu.2).1 < 4:=hk3
 generalize e7:dr s 4 fu.2=k3 at hk3 ⊢
 obtain ⟨k'',hkk3⟩:∃k:Nat,k3.1=k:=⟨k3.1.toNat,by omega⟩
 rw [hkk3]
 refine W03 ?_
 refine aM [2,3,4] (α:=Nat×Option (Nat×Nat)) (fun x=>[(12,aK x.1)]) (fun x=>x.1≤k'') (fun x=>[eC b s ⟨aK U,.vec none 9 [],.vec none 2 [],bZ,.vec none 2 [],.imm 4 (A.1.map cO),.imm 1 (rg.1.map bX),.imm 1 (fu.1.map dO),.vec x.2 1 (aW (rJ s x.1 k3.2).1)⟩ (rJ s x.1 k3.2).2,tB tb]++tok x.2 3 1 (aW (rJ s x.1 k3.2).1).length) (fun x=>k'' - x.1) (0,none) rfl ⟨rfl,trivial⟩ (Nat.zero_le _) (fun _ _ h=>h) ?_
 rintro ⟨jc,q3⟩ hjc
 dsimp only at hjc ⊢
 have hcl:=Eu s jc k3.2
 have hstep:rJ s (jc+1) k3.2=(cm (dr s 500) fun z=>cQ ((rJ s jc k3.2).1++[z - 100])) (rJ s jc k3.2).2:=rfl
 try dsimp only [Ns,Nr,Nq,Nk]
 refine W01 ?_
 refine aj rfl (fun h=>?_) (fun h=>?_)
 ·have hjk:jc < k'':=by have:=Ny h;omega
  generalize rJ s jc k3.2=C at hcl hstep ⊢
  have hclm:(aW C.1).length=C.1.length:=aJ _
  unfold cm at hstep
  refine W0n ?_
  refine dM [.cell (b,10,.vec q3 1 (aW C.1))] 11 [(0,.v),(1,.v),(2,.v),(3,.v),(4,.v),(5,.k),(6,.v),(7,.f),(8,.v),(9,.v),(10,.e)] none ?_ trivial rfl (by kernel_rfl) (by kernel_rfl) (by kernel_rfl) bQ (by kernel_rfl) rfl
  refine W09 ?_
  refine eo a5 0 rfl rfl rfl (c5 0 rfl rfl ci) (by first | trivial | rfl) ?_
  refine W09 ?_
  refine f8 (c5 0 rfl rfl ci) ?_
  have hz:=cH s hs C.2.a (n:=500) (by omega)
  have hz:0≤(dr s 500 C.2).1∧(dr s 500 C.2).1 < 500:=hz
  generalize dr s 500 C.2=z at hz hstep ⊢
  try dsimp only [cQ] at hstep
  repeat' (first|refine aD ?_|(apply dA;refine eI ?_)|refine dQ a5 ?_|fail)
  refine dP a5 _ rfl rfl rfl rfl (List.perm_append_comm (l₁:=[_,_])) (by simp [aJ];omega) (by simp [aJ];omega) (by first | trivial | rfl) fun q'=>?_
  refine NP [2,3,4,12,137,147] IG ?_
  refine aL (aQ (List.perm_append_comm (l₂:=[_,_]))) ?_
  refine W0j ?_
  exact aC (jc+1,q') rfl ⟨by rw [Nv];rfl,trivial⟩ (by dsimp only;omega) (by dsimp only;omega) (fun _ _ h=>by dsimp only;rw [hstep];dsimp only;rw [show aW (C.1++[z.1 - 100])=aW C.1++[[aK (z.1 - 100)]] from List.map_append ..];exact h)
 have hjk:jc=k'':=by have:=Nx h;omega
 subst hjk
 clear hstep
 generalize e8:rJ s jc k3.2=cv at hcl ⊢
 refine W01 ?_
 refine aL (bL 0 rfl fun σ vs h=>cN (k:=10) (c':= .imm 1 (aW cv.1)) h rfl fun v hv=>VR.im hv) ?_
 refine aL (bF (L':=[eC b s ⟨aK U,.vec none 9 [],.vec none 2 [],bZ,.vec none 2 [],.imm 4 (A.1.map cO),.imm 1 (rg.1.map bX),.imm 1 (fu.1.map dO),.imm 1 (aW cv.1)⟩ cv.2,tB tb]) (List.Sublist.cons_cons _ (List.Sublist.cons_cons _ (List.nil_sublist _)))) ?_
 refine cS ?_
 have hk4:=cH s hs cv.2.a (n:=9) (by omega)
 have hk4:0≤(dr s 9 cv.2).1∧(dr s 9 cv.2).1 < 9:=hk4
 generalize e9:dr s 9 cv.2=k4 at hk4 ⊢
 obtain ⟨n,hkk4⟩:∃k:Nat,2+k4.1=k:=⟨(2+k4.1).toNat,by omega⟩
 refine W0B ?_
 rw [hkk4]
 have hrgl:(rg.1.map bX).length=rg.1.length:=Nu ..
 have hful:(fu.1.map dO).length=fu.1.length:=Nu ..
 have hrg3:rg.1.length≤1000:=by
  have hR:c9 (gB s A.1.length) fun l=>l.length≤3:=c9.ite (fun _=>c9.ret (Nat.zero_le _)) fun _=>(d8 s (by omega)).bnd fun n hn m=>by rw [u3];omega
  have:=hR A.2
  rw [hal] at this
  rw [←e4]
  omega
 refine aM [2,3,4] (α:=Nat×Option (Nat×Nat)) (fun x=>[(13,aK x.1)]) (fun x=>x.1≤n) (fun x=>[eC b s ⟨aK U,.vec x.2 9 ((hQ s rg.1.length fu.1.length x.1 k4.2).1.map bD),.vec none 2 [],bZ,.vec none 2 [],.imm 4 (A.1.map cO),.imm 1 (rg.1.map bX),.imm 1 (fu.1.map dO),.imm 1 (aW cv.1)⟩ (hQ s rg.1.length fu.1.length x.1 k4.2).2,tB tb]++tok x.2 76 9 ((hQ s rg.1.length fu.1.length x.1 k4.2).1.map bD).length) (fun x=>n - x.1) (0,none) rfl ⟨rfl,trivial⟩ (Nat.zero_le _) (fun _ _ h=>h) ?_
 rintro ⟨jg,q4⟩ hjg
 dsimp only at hjg ⊢
 have hgl:=wB s rg.1.length fu.1.length jg k4.2
 have hstep:hQ s rg.1.length fu.1.length (jg+1) k4.2=(cm (la s rg.1.length fu.1.length jg) fun g=>cQ ((hQ s rg.1.length fu.1.length jg k4.2).1++[g])) (hQ s rg.1.length fu.1.length jg k4.2).2:=rfl
 try dsimp only [Ns,Nr,Nq,Nk]
 refine W01 ?_
 refine aj rfl (fun h=>?_) (fun h=>?_)
 ·have hjn:jg < n:=by have:=Ny h;omega
  generalize hQ s rg.1.length fu.1.length jg k4.2=Gs at hgl hstep ⊢
  have hglm:(Gs.1.map bD).length=Gs.1.length:=Nu ..
  unfold cm at hstep
  refine W03 ?_
  refine b7 ([eC b s ⟨aK U,.vec q4 9 (Gs.1.map bD),.vec none 2 [],bZ,.vec none 2 [],.imm 4 (A.1.map cO),.imm 1 (rg.1.map bX),.imm 1 (fu.1.map dO),.imm 1 (aW cv.1)⟩ Gs.2]++(tok q4 76 9 (Gs.1.map bD).length++[])) [tB tb] (F9 s hs ⟨aK U,.vec q4 9 (Gs.1.map bD),.vec none 2 [],bZ,.vec none 2 [],.imm 4 (A.1.map cO),.imm 1 (rg.1.map bX),.imm 1 (fu.1.map dO),.imm 1 (aW cv.1)⟩ rfl rfl rfl rg.1.length fu.1.length jg hrgl hful (by omega) (by omega) (by omega) (by omega) b Gs.2) rfl rfl G1 rfl fun c L1 ⟨q',hL1⟩=>?_
  subst hL1
  refine aL (aQ G1.symm) ?_
  generalize la s rg.1.length fu.1.length jg Gs.2=g at hstep ⊢
  try dsimp only [cQ] at hstep
  refine W02 ?_
  exact aC (jg+1,q') rfl ⟨by rw [Nv];rfl,trivial⟩ (by dsimp only;omega) (by dsimp only;omega) (fun _ _ h=>by dsimp only;rw [hstep];dsimp only;rw [List.map_append];exact h)
 have hjn:jg=n:=by have:=Nx h;omega
 subst hjn
 clear hstep
 generalize e10:hQ s rg.1.length fu.1.length jg k4.2=gl at hgl ⊢
 have hglm:(gl.1.map bD).length=gl.1.length:=Nu ..
 repeat' (first|refine Ng ?_|fail)
 refine bw (hc:=⟨D6⟩) ?_
 refine aL (bF (L':=[eC b s ⟨aK U,.vec q4 9 (gl.1.map bD),.vec none 2 [],bZ,.vec none 2 [],.imm 4 (A.1.map cO),.imm 1 (rg.1.map bX),.imm 1 (fu.1.map dO),.imm 1 (aW cv.1)⟩ gl.2,tB tb]) (List.Sublist.cons_cons _ (List.Sublist.cons_cons _ (List.nil_sublist _)))) ?_
 refine W03 ?_
 have hr16:(aW iz).length=16:=rfl
 refine aM [2,3,14] (α:=Nat×Option (Nat×Nat)) (fun x=>[(15,aK x.1)]) (fun x=>x.1≤16) (fun x=>[eC b s ⟨aK U,.vec q4 9 (gl.1.map bD),.vec x.2 2 ((iY s gl.1.length x.1 gl.2).1.map ek),bZ,.vec none 2 [],.imm 4 (A.1.map cO),.imm 1 (rg.1.map bX),.imm 1 (fu.1.map dO),.imm 1 (aW cv.1)⟩ (iY s gl.1.length x.1 gl.2).2,tB tb]++tok x.2 119 2 ((iY s gl.1.length x.1 gl.2).1.map ek).length) (fun x=>16 - x.1) (0,none) rfl ⟨rfl,trivial⟩ (Nat.zero_le _) (fun _ _ h=>h) ?_
 rintro ⟨jr,q5⟩ hjr
 dsimp only at hjr ⊢
 have hcl2:=yc s gl.1.length jr gl.2
 have hstep:iY s gl.1.length (jr+1) gl.2=(cm (dr s 4) fun z=>if 0 < z then cm (dr s gl.1.length) fun g=>cQ ((iY s gl.1.length jr gl.2).1++[(⟨iz.getD jr 0,g⟩:gu)]) else cQ (iY s gl.1.length jr gl.2).1) (iY s gl.1.length jr gl.2).2:=rfl
 try dsimp only [Ns,Nr,Nq,Nk]
 refine W01 ?_
 refine aj rfl (fun h=>?_) (fun h=>?_)
 ·have hj16:jr < 16:=by have:=Ny h;rw [hr16] at this;omega
  have hrn:(aW iz)[jr]?=some [aK (iz.getD jr 0)]:=bK (mN hj16 0)
  generalize iz.getD jr 0=rn at hrn hstep
  generalize iY s gl.1.length jr gl.2=Ch at hcl2 hstep ⊢
  have hchm:(Ch.1.map ek).length=Ch.1.length:=Nu ..
  unfold cm at hstep
  refine W03 ?_
  refine cS ?_
  generalize dr s 4 Ch.2=z at hstep ⊢
  dsimp only at hstep
  refine W01 ?_
  refine aj rfl (fun hz=>?_) (fun hz=>?_)
  ·rw [if_pos (Ny hz)] at hstep
   refine dM [.cell (b,4,.vec q5 2 (Ch.1.map ek))] 21 [(0,.v),(1,.v),(2,.v),(3,.v),(4,.v),(5,.k),(6,.v),(7,.v),(8,.v),(9,.v),(10,.v),(11,.v),(12,.v),(13,.v),(14,.v),(15,.l),(16,.v),(17,.f),(18,.v),(19,.v),(20,.e)] none ?_ trivial rfl (by kernel_rfl) (by kernel_rfl) (by kernel_rfl) bQ (by kernel_rfl) rfl
   refine W09 ?_
   refine eo a5 0 rfl rfl rfl (c5 0 rfl rfl ci) (by first | trivial | rfl) ?_
   refine W0H ?_
   rw [hglm]
   refine f8 (c5 0 rfl rfl ci) ?_
   generalize dr s gl.1.length z.2=g at hstep ⊢
   try dsimp only [cQ] at hstep
   refine W0V ?_
   refine dP a5 _ rfl rfl rfl rfl (List.perm_append_comm (l₁:=[_,_])) (by simp;omega) (by simp;omega) (by first | trivial | rfl) fun q'=>?_
   refine NP [2,3,14,15,172,192] IG ?_
   refine aL (aQ (List.perm_append_comm (l₂:=[_,_]))) ?_
   refine W0j ?_
   exact aC (jr+1,q') rfl ⟨by rw [Nv];rfl,trivial⟩ (by dsimp only;omega) (by dsimp only;omega) (fun _ _ h=>by dsimp only;rw [hstep];dsimp only;rw [List.map_append];exact h)
  ·rw [if_neg (Nx hz)] at hstep
   try dsimp only [cQ] at hstep
   refine W02 ?_
   exact aC (jr+1,q5) rfl ⟨by rw [Nv];rfl,trivial⟩ (by dsimp only;omega) (by dsimp only;omega) (fun _ _ h=>by dsimp only;rw [hstep];exact h)
 have hj16:jr=16:=by have:=Nx h;rw [hr16] at this;omega
 subst hj16
 clear hstep
 generalize e11:iY s gl.1.length 16 gl.2=ch at hcl2 ⊢
 refine W01 ?_
 refine aL (bL 0 rfl fun σ vs h=>cN (k:=4) (c':= .imm 2 (ch.1.map ek)) h rfl fun v hv=>VR.im hv) ?_
 refine aL (bF (L':=[eC b s ⟨aK U,.vec q4 9 (gl.1.map bD),.imm 2 (ch.1.map ek),bZ,.vec none 2 [],.imm 4 (A.1.map cO),.imm 1 (rg.1.map bX),.imm 1 (fu.1.map dO),.imm 1 (aW cv.1)⟩ ch.2]++[tB tb]) (List.Sublist.cons_cons _ (List.Sublist.cons_cons _ (List.nil_sublist _)))) ?_
 refine b7 [eC b s ⟨aK U,.vec q4 9 (gl.1.map bD),.imm 2 (ch.1.map ek),bZ,.vec none 2 [],.imm 4 (A.1.map cO),.imm 1 (rg.1.map bX),.imm 1 (fu.1.map dO),.imm 1 (aW cv.1)⟩ ch.2] [tB tb] (yU s hs ⟨aK U,.vec q4 9 (gl.1.map bD),.imm 2 (ch.1.map ek),bZ,.vec none 2 [],.imm 4 (A.1.map cO),.imm 1 (rg.1.map bX),.imm 1 (fu.1.map dO),.imm 1 (aW cv.1)⟩ rfl rfl gl.1.length hglm (by omega) b ch.2) rfl rfl (Nn _) rfl fun c L1 hL1=>?_
 subst hL1
 have hlk6:=(qC s (n:=gl.1.length) (by omega) ch.2).len
 generalize e12:jG s gl.1.length ch.2=lk at hlk6 ⊢
 have hlkm:(lk.1.map br).length=lk.1.length:=Nu ..
 repeat' (first|refine Ng ?_|fail)
 refine bw (hc:=⟨wY⟩) ?_
 refine aL (aQ (L':=[eC b s ⟨aK U,.vec q4 9 (gl.1.map bD),.imm 2 (ch.1.map ek),.imm 3 (lk.1.map br),.vec none 2 [],.imm 4 (A.1.map cO),.imm 1 (rg.1.map bX),.imm 1 (fu.1.map dO),.imm 1 (aW cv.1)⟩ lk.2,tB tb]) (Nn _)) ?_
 refine W03 ?_
 have hn8:(Dg hZ).length=8:=rfl
 refine aM [2,3,16] (α:=Nat×Option (Nat×Nat)) (fun x=>[(17,aK x.1)]) (fun x=>x.1≤8) (fun x=>[eC b s ⟨aK U,.vec q4 9 (gl.1.map bD),.imm 2 (ch.1.map ek),.imm 3 (lk.1.map br),.vec x.2 2 ((j1 s lk.1.length x.1 lk.2).1.map cg),.imm 4 (A.1.map cO),.imm 1 (rg.1.map bX),.imm 1 (fu.1.map dO),.imm 1 (aW cv.1)⟩ (j1 s lk.1.length x.1 lk.2).2,tB tb]++tok x.2 121 2 ((j1 s lk.1.length x.1 lk.2).1.map cg).length) (fun x=>8 - x.1) (0,none) rfl ⟨rfl,trivial⟩ (Nat.zero_le _) (fun _ _ h=>h) ?_
 rintro ⟨jf,q6⟩ hjf
 dsimp only at hjf ⊢
 have hftl:=yn s lk.1.length jf lk.2
 have hstep:j1 s lk.1.length (jf+1) lk.2=(cm (pp s lk.1.length) fun r=>cm (dr s 2) fun z=>cQ (if z=0 then (j1 s lk.1.length jf lk.2).1++[(⟨hZ.getD jf ByteArray.empty,r⟩:c6)] else (j1 s lk.1.length jf lk.2).1)) (j1 s lk.1.length jf lk.2).2:=rfl
 try dsimp only [Ns,Nr,Nq,Nk]
 refine W01 ?_
 refine aj rfl (fun h=>?_) (fun h=>?_)
 ·have hj8:jf < 8:=by have:=Ny h;rw [hn8] at this;omega
  have hnm:(Dg hZ)[jf]?=some [vE (hZ.getD jf ByteArray.empty)]:=oU (mN hj8 ByteArray.empty)
  generalize hZ.getD jf ByteArray.empty=nm at hnm hstep
  generalize j1 s lk.1.length jf lk.2=Ft at hftl hstep ⊢
  have hftm:(Ft.1.map cg).length=Ft.1.length:=Nu ..
  unfold cm at hstep
  refine W03 ?_
  refine bU (bH (t:=18) (c':= .vec none 1 []) rfl fun σ v h=>cW 1 h) ?_
  refine aM [2,3,16,17] (α:=Nat×Option (Nat×Nat)) (fun x=>[(19,aK x.1),(18,.vec x.2 1 (aW (pp s x.1 Ft.2).1))]) (fun x=>x.1≤lk.1.length) (fun x=>[eC b s ⟨aK U,.vec q4 9 (gl.1.map bD),.imm 2 (ch.1.map ek),.imm 3 (lk.1.map br),.vec q6 2 (Ft.1.map cg),.imm 4 (A.1.map cO),.imm 1 (rg.1.map bX),.imm 1 (fu.1.map dO),.imm 1 (aW cv.1)⟩ (pp s x.1 Ft.2).2,tB tb]++(tok x.2 3 1 (aW (pp s x.1 Ft.2).1).length++tok q6 121 2 (Ft.1.map cg).length)) (fun x=>lk.1.length - x.1) (0,none) rfl ⟨rfl,rfl,trivial⟩ (Nat.zero_le _) (fun _ _ h=>h) ?_
  rintro ⟨a,q7⟩ ha
  dsimp only at ha ⊢
  have hal7:=E6 s a Ft.2
  have hst7:pp s (a+1) Ft.2=(cm (dr s 3) fun z=>cQ (if z=0 then (pp s a Ft.2).1++[(a:Int)] else (pp s a Ft.2).1)) (pp s a Ft.2).2:=rfl
  try dsimp only [Ns,Nr,Nq,Nk]
  refine W04 ?_
  refine aj rfl (fun h=>?_) (fun h=>?_)
  ·have hal:a < lk.1.length:=by have:=Ny h;rw [hlkm] at this;omega
   generalize pp s a Ft.2=As at hal7 hst7 ⊢
   have hasm:(aW As.1).length=As.1.length:=aJ _
   unfold cm at hst7
   refine W03 ?_
   refine cS ?_
   generalize dr s 3 As.2=z at hst7 ⊢
   dsimp only [cQ] at hst7
   refine W01 ?_
   refine aj rfl (fun hz=>?_) (fun hz=>?_)
   ·rw [if_pos (Ny hz)] at hst7
    refine W0g ?_
    refine NS a5 _ NB (ff (A:=[_,_])) (by simp [aJ];omega) (by simp [aJ];omega) rfl fun q'=>?_
    refine aL (aQ (ff (A:=[_,_])).symm) ?_
    refine W02 ?_
    exact aC (a+1,q') rfl ⟨by rw [Nv];rfl,by rw [hst7];dsimp only;rw [show aW (As.1++[(a:Int)])=aW As.1++[[aK (a:Int)]] from List.map_append ..];rfl,trivial⟩ (by dsimp only;omega) (by dsimp only;omega) (fun _ _ h=>by dsimp only;rw [hst7];dsimp only;rw [show aW (As.1++[(a:Int)])=aW As.1++[[aK (a:Int)]] from List.map_append ..];exact h)
   ·rw [if_neg (Nx hz)] at hst7
    refine W02 ?_
    exact aC (a+1,q7) rfl ⟨by rw [Nv];rfl,by rw [hst7];rfl,trivial⟩ (by dsimp only;omega) (by dsimp only;omega) (fun _ _ h=>by dsimp only;rw [hst7];exact h)
  have hal:a=lk.1.length:=by have:=Nx h;rw [hlkm] at this;omega
  subst hal
  clear hst7
  generalize pp s lk.1.length Ft.2=As at hal7 hstep ⊢
  dsimp only at hstep
  refine W01 ?_
  refine aL (bH (t:=18) (c':= .imm 1 (aW As.1)) rfl fun σ v h=>VR.im h) ?_
  refine aL (bF (L':=[eC b s ⟨aK U,.vec q4 9 (gl.1.map bD),.imm 2 (ch.1.map ek),.imm 3 (lk.1.map br),.vec q6 2 (Ft.1.map cg),.imm 4 (A.1.map cO),.imm 1 (rg.1.map bX),.imm 1 (fu.1.map dO),.imm 1 (aW cv.1)⟩ As.2,tB tb]++tok q6 121 2 (Ft.1.map cg).length) (List.Sublist.cons_cons _ (List.Sublist.cons_cons _ (List.sublist_append_right _ _)))) ?_
  refine cS ?_
  generalize dr s 2 As.2=z at hstep ⊢
  dsimp only [cQ] at hstep
  refine W01 ?_
  refine aj rfl (fun hz=>?_) (fun hz=>?_)
  ·rw [if_pos (Ny hz)] at hstep
   refine bv 14 [(0,.v),(1,.v),(2,.v),(3,.v),(4,.v),(5,.l),(6,.v),(7,.v),(8,.v),(9,.v),(10,.v),(11,.v),(12,.v),(13,.e)] none ?_ trivial rfl (by kernel_rfl) (by kernel_rfl) (by kernel_rfl) bQ (by kernel_rfl) rfl
   refine W1i ?_
   refine dP a5 _ rfl rfl rfl rfl (List.perm_append_comm (l₁:=[_,_])) (by simp;omega) (by simp;omega) (by first | trivial | rfl) fun q'=>?_
   refine NP [2,3,16,17,225,238] IG ?_
   refine aL (aQ (List.perm_append_comm (l₂:=[_,_]))) ?_
   refine W0j ?_
   exact aC (jf+1,q') rfl ⟨by rw [Nv];rfl,trivial⟩ (by dsimp only;omega) (by dsimp only;omega) (fun _ _ h=>by dsimp only;rw [hstep];dsimp only;rw [List.map_append];exact h)
  ·rw [if_neg (Nx hz)] at hstep
   refine W02 ?_
   exact aC (jf+1,q6) rfl ⟨by rw [Nv];rfl,trivial⟩ (by dsimp only;omega) (by dsimp only;omega) (fun _ _ h=>by dsimp only;rw [hstep];exact h)
 have hj8:jf=8:=by have:=Nx h;rw [hn8] at this;omega
 subst hj8
 clear hstep
 generalize e13:j1 s lk.1.length 8 lk.2=ft at hftl ⊢
 repeat' (first|refine Ng ?_|refine NG a5 IG ?_|(apply bz;first|refine NJ a5 0 NC ?_|refine NJ a5 1 NC ?_|refine NJ a5 2 NC ?_|refine NJ a5 3 NC ?_|refine NK a5 0 NC ?_|refine NK a5 1 NC ?_|refine NK a5 2 NC ?_|refine NL a5 1 NA (by assumption) rfl ?_|refine NL a5 0 NA (by assumption) rfl ?_|fail)|(apply aI;first|refine NI 6 a5 0 NF ?_|refine NI 6 a5 1 NF ?_|refine NI 6 a5 2 NF ?_|refine NH a5 0 NE ?_|refine NH a5 1 NE ?_|refine NH a5 2 NE ?_|refine NH a5 3 NE ?_|fail))
 have hv:s9 s=⟨U,gl.1,ch.1,lk.1,ft.1,A.1,rg.1,fu.1,cv.1⟩:=by
  unfold s9 Fx cm
  rw [e1]
  try dsimp only
  rw [e2]
  try dsimp only
  rw [hkk,Int.toNat_natCast,e3]
  try dsimp only
  rw [e4,e5]
  try dsimp only
  rw [hkk2,Int.toNat_natCast,e6]
  try dsimp only
  rw [e7]
  try dsimp only
  rw [hkk3,Int.toNat_natCast,e8]
  try dsimp only
  rw [e9]
  try dsimp only
  rw [hkk4,Int.toNat_natCast,e10]
  try dsimp only
  rw [e11]
  try dsimp only
  rw [e12]
  try dsimp only
  rw [e13,hU]
  rfl
 rw [hv]
 exact bf (bL 1 (cs':=cn ⟨U,gl.1,ch.1,lk.1,ft.1,A.1,rg.1,fu.1,cv.1⟩) rfl fun σ vs h=>mF.vrs (a:=[aK U,.vec q4 9 (gl.1.map bD),.imm 2 (ch.1.map ek),.imm 3 (lk.1.map br),.vec q6 2 (ft.1.map cg),.imm 4 (A.1.map cO),.imm 1 (rg.1.map bX),.imm 1 (fu.1.map dO),.imm 1 (aW cv.1)]) (b:=cn ⟨U,gl.1,ch.1,lk.1,ft.1,A.1,rg.1,fu.1,cv.1⟩) ⟨d7.refl _,d7.im,d7.refl _,d7.refl _,d7.im,d7.refl _,d7.refl _,d7.refl _,d7.refl _,trivial⟩ h) (NU a5 1 [] NC (List.nil_sublist _) rfl)
end Go.Proofs.YtpmdfoaadejmkaaGreatDoor
