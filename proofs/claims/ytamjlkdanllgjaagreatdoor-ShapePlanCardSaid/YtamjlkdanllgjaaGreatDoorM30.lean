/-
  The maker: fonts.
-/
import Derived.Test.YtamjlkdanllgjaaGreatDoorM29
import Derived.Test.YtamjlkdanllgjaaGreatDoorM28
namespace Go.Proofs.YtamjlkdanllgjaaGreatDoor
open Go.RowKit
attribute [local irreducible] AT bF AX AO Av Kt b8 d9 DA cu
set_option maxRecDepth 8000
variable (s:List Int) (hs:s.length≤1000000)
theorem Fe {a c:Nat×AB} {T:AL}:([a,c]++T).Perm (([a]++(T++[]))++[c]):=by
 rw [List.append_nil]
 exact List.Perm.cons a (List.perm_append_comm (l₁:=[c]))
theorem M5 {A T:AL} {c:Nat×AB}:((A++T)++[c]).Perm ((A++[c])++T):=by
 rw [List.append_assoc,List.append_assoc]
 exact List.Perm.append_left _ List.perm_append_comm
theorem Cz:bH Tryz.prog 34 [] (.imm 1 (aL fB)):=by
 refine aQ Tryz.func34 rfl Tryz.ntmps34 rfl fun B=>?_
 refine W0f ?_
 exact OL NZ
theorem wq:bH Tryz.prog 26 [] (.imm 1 (fK gR)):=by
 refine aQ Tryz.func26 rfl Tryz.ntmps26 rfl fun B=>?_
 refine W0f ?_
 exact OL NZ
theorem sX (k:Nat) (m:MS):(l9 s k m).1.length=k:=by
 exact (bX.runs (fun i (l:List eI)=>l.length=i) k rfl fun i l _ h=>(bX.any _).bnd fun a _=>(bX.any _).bnd fun b _=>bX.ret (by simp [h])) m
theorem yT (k:Nat) (m:MS):(ii s k m).1.length=k:=by
 exact (bX.runs (fun i (l:List f9)=>l.length=i) k rfl fun i l _ h=>(bX.any _).bnd fun a _=>bX.ret (by simp [h])) m
theorem tN (x k:Nat) (m:MS):(kT s x k m).1.length=k:=by
 exact (bX.runs (fun i (l:List (List f9))=>l.length=i) k rfl fun i l _ h=>(bX.any _).bnd fun a _=>bX.ret (by simp [h])) m
theorem xV (k:Nat) (m:MS):(iQ s k m).1.length=k:=by
 exact (bX.runs (fun i (l:List (List eW))=>l.length=i) k rfl fun i l _ h=>(bX.any _).bnd fun a _=>(bX.any _).bnd fun b _=>bX.ret (by simp [h])) m
theorem DX (k:Nat) (m:MS):(rh s k m).1.length=k:=by
 exact (bX.runs (fun i (l:List Int)=>l.length=i) k rfl fun i l _ h=>(bX.any _).bnd fun a _=>bX.ret (by simp [h])) m
theorem vY (R fn k:Nat) (m:MS):(gp s R fn k m).1.length=k:=by
 exact (bX.runs (fun i (l:List bn)=>l.length=i) k rfl fun i l _ h=>(bX.any _).bnd fun a _=>bX.ret (by simp [h])) m
theorem xF (n:Int) (k:Nat) (m:MS):(ia s n k m).1.length≤k:=by
 exact (bX.runs (fun i (l:List dt)=>l.length≤i) k (Nat.le_refl _) fun i l _ h=>(bX.any _).bnd fun a _=>bX.ite (fun _=>(bX.any _).bnd fun b _=>bX.ret (by simp;omega)) fun _=>bX.ret (by omega)) m
theorem Du (k:Nat) (m:MS):(ou s k m).1.length≤k:=by
 exact (bX.runs (fun i (l:List Int)=>l.length≤i) k (Nat.le_refl _) fun i l _ h=>(bX.any _).bnd fun a _=>bX.ret (by
  split
  ·simp;omega
  ·omega)) m
theorem xP (n k:Nat) (m:MS):(ic s n k m).1.length≤k:=by
 exact (bX.runs (fun i (l:List bz)=>l.length≤i) k (Nat.le_refl _) fun i l _ h=>(bX.any _).bnd fun a _=>(bX.any _).bnd fun b _=>bX.ret (by
  split
  ·simp;omega
  ·omega)) m
abbrev tB (tb:Nat):Nat×AB:=(tb,.box [aG 0,bV,bV,bV,bV,bV,bV,bV,bV] 36)
include hs
set_option maxHeartbeats 32000000 in
theorem EI:bH Tryz.prog 25 [.imm 1 (aL s)] (cR (pJ s)):=by
 refine aQ Tryz.func25 rfl Tryz.ntmps25 rfl fun B=>?_
 repeat' (first|refine O1 ?_|refine OE a7 KN ?_|refine A4 (d:=22) fun _=>?_|refine bi a7 fun _=>?_|refine bO a7 ?_|fail)
 rename_i tb b
 refine aX (aW (L':=[ee b s ⟨aG 0,bV,bV,bV,bV,bV,bV,bV,bV⟩ ⟨0,0⟩,tB tb]) (Ok _)) ?_
 refine aX (bB 0 (cs':=LW s ⟨aG 0,.vec none 9 [],.vec none 2 [],bV,.vec none 2 [],.vec none 4 [],.vec none 1 [],.vec none 1 [],.vec none 1 []⟩ ⟨0,0⟩) rfl fun σ vs h=>cJ (k:=3) (cJ (k:=4) (cJ (k:=6) (cJ (k:=7) (cJ (k:=8) (cJ (k:=9) (cJ (k:=10) h rfl fun v hv=>cM 1 hv) rfl fun v hv=>cM 1 hv) rfl fun v hv=>cM 1 hv) rfl fun v hv=>cM 4 hv) rfl fun v hv=>cM 2 hv) rfl fun v hv=>cM 2 hv) rfl fun v hv=>cM 9 hv) ?_
 refine cL ?_
 have hu:=co s hs 0 (n:=4) (by omega)
 have hu:0≤(dr s 4 ⟨0,0⟩).1∧(dr s 4 ⟨0,0⟩).1 < 4:=hu
 generalize e1:dr s 4 ⟨0,0⟩=u at hu ⊢
 have hul:(aL mS)[u.1.toNat]?=some [aG (mS.getD u.1.toNat 0)]:=bD (kr (by simp only [mS,List.length_cons,List.length_nil];omega) 0)
 generalize hU:mS.getD u.1.toNat 0=U at hul
 repeat' (first|refine O1 ?_|refine OE a7 KN ?_|(apply aV;first|refine aU a7 ?_|refine aN a7 ?_)|(apply aO;first|refine OG 6 a7 0 OD ?_|refine OG 6 a7 1 OD ?_|refine OG 6 a7 2 OD ?_|refine OF a7 0 OC ?_|refine OF a7 1 OC ?_|refine OF a7 2 OC ?_|refine OF a7 3 OC ?_|fail))
 refine aX (aW (L':=[ee b s ⟨aG U,.vec none 9 [],.vec none 2 [],bV,.vec none 2 [],.vec none 4 [],.vec none 1 [],.vec none 1 [],.vec none 1 []⟩ u.2,tB tb]) (Ok _)) ?_
 refine cL ?_
 have hk:=co s hs u.2.a (n:=3) (by omega)
 have hk:0≤(dr s 3 u.2).1∧(dr s 3 u.2).1 < 3:=hk
 generalize e2:dr s 3 u.2=k1 at hk ⊢
 obtain ⟨k,hkk⟩:∃k:Nat,k1.1=k:=⟨k1.1.toNat,by omega⟩
 rw [hkk]
 refine W03 ?_
 refine aJ [2,3,4] (α:=Nat×Option (Nat×Nat)) (fun x=>[(5,aG x.1)]) (fun x=>x.1≤k) (fun x=>[ee b s ⟨aG U,.vec none 9 [],.vec none 2 [],bV,.vec none 2 [],.vec x.2 4 ((l9 s x.1 k1.2).1.map cS),.vec none 1 [],.vec none 1 [],.vec none 1 []⟩ (l9 s x.1 k1.2).2,tB tb]++tok x.2 131 4 ((l9 s x.1 k1.2).1.map cS).length) (fun x=>k - x.1) (0,none) rfl ⟨rfl,trivial⟩ (Nat.zero_le _) (fun _ _ h=>h) ?_
 rintro ⟨i,q⟩ hi
 dsimp only at hi ⊢
 have hal:=sX s i k1.2
 have hstep:l9 s (i+1) k1.2=(c8 (dr s 3) fun a=>c8 (dr s 4) fun b=>cK ((l9 s i k1.2).1++[(⟨mE Dz i,0 - a * 100,0,b * 100⟩:eI)])) (l9 s i k1.2).2:=rfl
 try dsimp only [Oq,Oo,Om,Oh]
 refine W01 ?_
 refine aw rfl (fun h=>?_) (fun h=>?_)
 ·have hil:i < k:=by have:=Oy h;omega
  generalize l9 s i k1.2=A at hal hstep ⊢
  have halm:(A.1.map cS).length=A.1.length:=Ou ..
  refine W0z ?_
  refine bk 15 [(0,.v),(1,.v),(2,.v),(3,.v),(4,.v),(5,.v),(6,.v),(10,.v),(7,.e),(8,.v),(9,.v),(11,.e),(12,.v),(13,.v)] (some (14,.box _ 131)) ?_ ⟨_,rfl,rfl,fun _ _ _=>mY (eA a7 rfl) rfl⟩ rfl (by kernel_rfl) (by kernel_rfl) (by kernel_rfl) mixed (by kernel_rfl) rfl
  refine W0q ?_
  refine DZ a7 ?_
  rw [wc i (by omega)]
  refine W0K ?_
  refine zx a7 ?_
  rw [zS i (by omega)]
  repeat' (first|refine aE ?_|fail)
  refine IL (hs:=Nat.le_of_ble_eq_true rfl) ?_
  rw [Be]
  refine W06 ?_
  refine uf ?_
  have ha:=co s hs A.2.a (n:=3) (by omega)
  have ha:0≤(dr s 3 A.2).1∧(dr s 3 A.2).1 < 3:=ha
  unfold c8 at hstep
  generalize dr s 3 A.2=a at ha hstep ⊢
  dsimp only at hstep
  refine W11 ?_
  refine uf ?_
  have hc:=co s hs a.2.a (n:=4) (by omega)
  have hc:0≤(dr s 4 a.2).1∧(dr s 4 a.2).1 < 4:=hc
  generalize dr s 4 a.2=c at hc hstep ⊢
  try dsimp only [cK] at hstep
  refine W0q ?_
  refine ug [2,3,4,5,6,52] (fun _=>_) (fun _=>rfl) rfl fun _=>?_
  rename_i ab
  refine aX (aW (M5 (A:=[_,_]))) ?_
  repeat' (first|refine O1 ?_|(apply aO;first|refine OG 6 a7 0 OD ?_|refine OG 6 a7 1 OD ?_|refine OG 6 a7 2 OD ?_|refine OF a7 0 OC ?_|refine OF a7 1 OC ?_|refine OF a7 2 OC ?_|refine OF a7 3 OC ?_|fail))
  refine bk 9 [(0,.v),(1,.v),(2,.v),(3,.v),(4,.v),(5,.l),(6,.v),(7,.v),(8,.e)] none ?_ trivial rfl (by kernel_rfl) (by kernel_rfl) (by kernel_rfl) mixed (by kernel_rfl) rfl
  refine W1e ?_
  refine fj a7 _ rfl rfl rfl rfl (List.perm_append_comm (l₁:=[_,_])) (by simp;omega) (by simp;omega) (by first | trivial | rfl) fun q'=>?_
  refine OO [2,3,4,5,53,61] KN ?_
  refine aX (aW (List.perm_append_comm (l₂:=[_,_]))) ?_
  refine W0e ?_
  exact aD (i+1,q') rfl ⟨by rw [Ov];rfl,trivial⟩ (by dsimp only;omega) (by dsimp only;omega) (fun _ _ h=>by dsimp only;rw [hstep];dsimp only;rw [List.map_append];exact h)
 have hil:i=k:=by have:=Ox h;omega
 subst hil
 clear hstep
 have hal:=sX s i k1.2
 generalize e3:l9 s i k1.2=A at hal ⊢
 refine W01 ?_
 refine bM (bB 0 rfl fun σ vs h=>cJ (k:=7) (c':= .imm 4 (A.1.map cS)) h rfl fun v hv=>VR.im hv) ?_
 refine bM (bS (L':=[ee b s ⟨aG U,.vec none 9 [],.vec none 2 [],bV,.vec none 2 [],.imm 4 (A.1.map cS),.vec none 1 [],.vec none 1 [],.vec none 1 []⟩ A.2,tB tb]) (List.Sublist.cons_cons _ (List.Sublist.cons_cons _ (List.nil_sublist _)))) ?_
 refine ua [2,3,4] ([ee b s ⟨aG U,.vec none 9 [],.vec none 2 [],bV,.vec none 2 [],.imm 4 (A.1.map cS),.imm 1 ((fP s i A.2).1.map bW),.vec none 1 [],.vec none 1 []⟩ (fP s i A.2).2,tB tb]) rfl (fun Q' K=>?_) ?_
 ·refine aw rfl (fun h=>?_) (fun h=>?_)
  ·have hi0:¬i=0:=by have:=Oy h;omega
   refine W01 ?_
   refine cL ?_
   have hn:=co s hs A.2.a (n:=4) (by omega)
   have hn:0≤(dr s 4 A.2).1∧(dr s 4 A.2).1 < 4:=hn
   generalize e4:dr s 4 A.2=n1 at hn ⊢
   obtain ⟨n,hnn⟩:∃k:Nat,n1.1=k:=⟨n1.1.toNat,by omega⟩
   have hv:fP s i A.2=kT s i n n1.2:=by
    unfold fP
    rw [if_neg hi0]
    unfold c8
    rw [e4]
    dsimp only
    rw [hnn,Int.toNat_natCast]
   rw [hv] at K
   rw [hnn]
   refine W03 ?_
   refine aJ [2,3,4,7] (α:=Nat×Option (Nat×Nat)) (fun x=>[(8,aG x.1)]) (fun x=>x.1≤n) (fun x=>[ee b s ⟨aG U,.vec none 9 [],.vec none 2 [],bV,.vec none 2 [],.imm 4 (A.1.map cS),.vec x.2 1 ((kT s i x.1 n1.2).1.map bW),.vec none 1 [],.vec none 1 []⟩ (kT s i x.1 n1.2).2,tB tb]++tok x.2 134 1 ((kT s i x.1 n1.2).1.map bW).length) (fun x=>n - x.1) (0,none) rfl ⟨rfl,trivial⟩ (Nat.zero_le _) (fun _ _ h=>h) ?_
   rintro ⟨j,q⟩ hj
   dsimp only at hj ⊢
   have hrl:=tN s i j n1.2
   have hstep:kT s i (j+1) n1.2=((kT s i j n1.2).1++[(ii s i (kT s i j n1.2).2).1],(ii s i (kT s i j n1.2).2).2):=rfl
   try dsimp only [Oq,Oo,Om,Oh]
   refine W01 ?_
   refine aw rfl (fun h=>?_) (fun h=>?_)
   ·have hjn:j < n:=by have:=Oy h;omega
    generalize kT s i j n1.2=Rg at hrl hstep ⊢
    have hrlm:(Rg.1.map bW).length=Rg.1.length:=Ou ..
    repeat' (first|refine O1 ?_|refine ak ?_|refine OE a7 KN ?_|refine bi a7 fun _=>?_|fail)
    rename_i rb
    refine bM (bB 0 (cs':=[.vec none 3 []]) rfl fun σ vs h=>cJ (k:=0) h rfl fun v hv=>cM 3 hv) ?_
    refine bM (aW (List.perm_middle (l₁:=[_,_])).symm) ?_
    refine aJ [2,3,4,7,8,9] (α:=Nat×Option (Nat×Nat)) (fun x=>[(10,aG x.1)]) (fun x=>x.1≤i) (fun x=>[ee b s ⟨aG U,.vec none 9 [],.vec none 2 [],bV,.vec none 2 [],.imm 4 (A.1.map cS),.vec q 1 (Rg.1.map bW),.vec none 1 [],.vec none 1 []⟩ (ii s x.1 Rg.2).2,tB tb,(rb,.box [.vec x.2 3 ((ii s x.1 Rg.2).1.map kN)] 134)]++(tok x.2 136 3 ((ii s x.1 Rg.2).1.map kN).length++tok q 134 1 (Rg.1.map bW).length)) (fun x=>i - x.1) (0,none) rfl ⟨rfl,trivial⟩ (Nat.zero_le _) (fun _ _ h=>h) ?_
    rintro ⟨a,qt⟩ ha
    dsimp only at ha ⊢
    have htl:=yT s a Rg.2
    have hstt:ii s (a+1) Rg.2=(c8 (dr s 5) fun z=>cK ((ii s a Rg.2).1++[kJ.getD z.toNat ⟨0,0,0⟩])) (ii s a Rg.2).2:=rfl
    try dsimp only [Oq,Oo,Om,Oh]
    refine W01 ?_
    refine aw rfl (fun h=>?_) (fun h=>?_)
    ·have hai:a < i:=by have:=Oy h;omega
     generalize ii s a Rg.2=Tn at htl hstt ⊢
     have htlm:(Tn.1.map kN).length=Tn.1.length:=Ou ..
     refine W0z ?_
     refine dE [.cell (rb,0,.vec qt 3 (Tn.1.map kN))] 13 [(0,.v),(1,.k),(2,.v),(3,.v),(4,.v),(5,.v),(6,.v),(7,.v),(8,.v),(9,.f),(10,.v),(11,.v),(12,.v)] none ?_ trivial rfl (by kernel_rfl) (by kernel_rfl) (by kernel_rfl) mixed (by kernel_rfl) rfl
     refine W06 ?_
     refine dU a7 0 rfl rfl rfl (bR 2 rfl rfl c6) (by first | trivial | rfl) ?_
     refine W0R ?_
     refine eO (bR 2 rfl rfl c6) ?_
     have hz:=co s hs Tn.2.a (n:=5) (by omega)
     have hz:0≤(dr s 5 Tn.2).1∧(dr s 5 Tn.2).1 < 5:=hz
     unfold c8 at hstt
     generalize dr s 5 Tn.2=z at hz hstt ⊢
     dsimp only [cK] at hstt
     have hzt:(kJ.map kN)[z.1.toNat]?=some (kN (kJ.getD z.1.toNat ⟨0,0,0⟩)):=by
      rw [List.getElem?_map,kr (l:=kJ) (i:=z.1.toNat) (by simp only [kJ,List.length_cons,List.length_nil];omega) ⟨0,0,0⟩]
      rfl
     generalize kJ.getD z.1.toNat ⟨0,0,0⟩=tn at hzt hstt
     refine W1l ?_
     refine OO [2,3,4,7,8,9,10,80,91] KN ?_
     repeat' (first|fail)
     refine bA a7 _ rfl rfl rfl rfl (eQ (A:=[_,_,_])) (by simp;omega) (by simp;omega) rfl fun q'=>?_
     refine aX (aW (eQ (A:=[_,_,_])).symm) ?_
     refine W0e ?_
     exact aD (a+1,q') rfl ⟨by rw [Ov];rfl,trivial⟩ (by dsimp only;omega) (by dsimp only;omega) (fun _ _ h=>by dsimp only;rw [hstt];dsimp only;rw [List.map_append];exact h)
    have hai:a=i:=by have:=Ox h;omega
    subst hai
    clear hstt htl
    generalize ii s a Rg.2=Tn at hstep ⊢
    repeat' (first|refine O1 ?_|fail)
    refine bM (bB 2 (cs':=[.imm 3 (Tn.1.map kN)]) rfl fun σ vs h=>cJ (k:=0) h rfl fun v hv=>VR.im hv) ?_
    refine bM (bS (L':=[ee b s ⟨aG U,.vec none 9 [],.vec none 2 [],bV,.vec none 2 [],.imm 4 (A.1.map cS),.vec q 1 (Rg.1.map bW),.vec none 1 [],.vec none 1 []⟩ Tn.2,tB tb,(rb,.box (bW Tn.1) 134)]++tok q 134 1 (Rg.1.map bW).length) (List.Sublist.cons_cons _ (List.Sublist.cons_cons _ (List.Sublist.cons_cons _ (List.sublist_append_right _ _))))) ?_
    refine bk 9 [(0,.v),(1,.v),(2,.v),(3,.v),(4,.v),(5,.l),(6,.l),(7,.v),(8,.e)] none ?_ trivial rfl (by kernel_rfl) (by kernel_rfl) (by kernel_rfl) mixed (by kernel_rfl) rfl
    refine W0t ?_
    refine qm a7 2 rfl rfl rfl rfl (by first | trivial | rfl) ?_
    refine W0K ?_
    refine fj a7 _ rfl rfl rfl rfl (List.perm_append_comm (l₁:=[_,_,_])) (by simp;omega) (by simp;omega) (by first | trivial | rfl) fun q'=>?_
    refine OO [2,3,4,7,8,94,102] KN ?_
    refine aX (aW (List.perm_append_comm (l₂:=[_,_,_]))) ?_
    refine W0e ?_
    exact aD (j+1,q') rfl ⟨by rw [Ov];rfl,trivial⟩ (by dsimp only;omega) (by dsimp only;omega) (fun _ _ h=>by dsimp only;rw [hstep];dsimp only;rw [List.map_append];exact h.sublist (List.Sublist.cons_cons _ (List.Sublist.cons_cons _ (List.sublist_cons_self ..))))
   have hjn:j=n:=by have:=Ox h;omega
   subst hjn
   generalize kT s i j n1.2=Rg at K ⊢
   repeat' (first|refine O1 ?_|fail)
   refine b7 (bB 0 rfl fun σ vs h=>cJ (k:=8) (c':= .imm 1 (Rg.1.map bW)) h rfl fun v hv=>VR.im hv) ?_
   refine b7 (bS (L':=[ee b s ⟨aG U,.vec none 9 [],.vec none 2 [],bV,.vec none 2 [],.imm 4 (A.1.map cS),.imm 1 (Rg.1.map bW),.vec none 1 [],.vec none 1 []⟩ Rg.2,tB tb]) (List.Sublist.cons_cons _ (List.Sublist.cons_cons _ (List.nil_sublist _)))) ?_
   exact K _ rfl
  ·have hi0:i=0:=by have:=Ox h;omega
   have hv:fP s i A.2=([],A.2):=by
    unfold fP
    rw [if_pos hi0]
    rfl
   rw [hv] at K
   repeat' (first|refine O1 ?_|fail)
   refine b7 (bB 0 rfl fun σ vs h=>cJ (k:=8) (c':= .imm 1 []) h rfl fun v hv=>VR.im hv) ?_
   exact K _ rfl
 generalize e4:fP s i A.2=rg
 refine W01 ?_
 refine cL ?_
 have hk2:=co s hs rg.2.a (n:=3) (by omega)
 have hk2:0≤(dr s 3 rg.2).1∧(dr s 3 rg.2).1 < 3:=hk2
 generalize e5:dr s 3 rg.2=k2 at hk2 ⊢
 obtain ⟨k',hkk2⟩:∃k:Nat,k2.1=k:=⟨k2.1.toNat,by omega⟩
 rw [hkk2]
 refine W03 ?_
 refine aJ [2,3,4] (α:=Nat×Option (Nat×Nat)) (fun x=>[(11,aG x.1)]) (fun x=>x.1≤k') (fun x=>[ee b s ⟨aG U,.vec none 9 [],.vec none 2 [],bV,.vec none 2 [],.imm 4 (A.1.map cS),.imm 1 (rg.1.map bW),.vec x.2 1 ((iQ s x.1 k2.2).1.map d6),.vec none 1 []⟩ (iQ s x.1 k2.2).2,tB tb]++tok x.2 65 1 ((iQ s x.1 k2.2).1.map d6).length) (fun x=>k' - x.1) (0,none) rfl ⟨rfl,trivial⟩ (Nat.zero_le _) (fun _ _ h=>h) ?_
 rintro ⟨j,q2⟩ hj
 dsimp only at hj ⊢
 have hfl:=xV s j k2.2
 have hstep:iQ s (j+1) k2.2=(c8 (hQ 0) fun _=>c8 (nw s 6 j 4) fun h=>cK ((iQ s j k2.2).1++[h])) (iQ s j k2.2).2:=rfl
 try dsimp only [Oq,Oo,Om,Oh]
 refine W01 ?_
 refine aw rfl (fun h=>?_) (fun h=>?_)
 ·have hjk:j < k':=by have:=Oy h;omega
  generalize iQ s j k2.2=Fu at hfl hstep ⊢
  have hflm:(Fu.1.map d6).length=Fu.1.length:=Ou ..
  unfold c8 at hstep
  repeat' (first|refine O1 ?_|refine ak ?_|refine OE a7 KN ?_|(apply aO;first|refine OG 6 a7 0 OD ?_|refine OG 6 a7 1 OD ?_|refine OG 6 a7 2 OD ?_|refine OF a7 0 OC ?_|refine OF a7 1 OC ?_|refine OF a7 2 OC ?_|refine OF a7 3 OC ?_|fail))
  refine bM (aW (L':=[ee b s ⟨aG U,.vec none 9 [],.vec none 2 [],bV,.vec none 2 [],.imm 4 (A.1.map cS),.imm 1 (rg.1.map bW),.vec q2 1 (Fu.1.map d6),.vec none 1 []⟩ (hQ 0 Fu.2).2,tB tb]++tok q2 65 1 (Fu.1.map d6).length) (Ok _)) ?_
  generalize (hQ 0 Fu.2).2=w at hstep ⊢
  dsimp only at hstep
  refine dE [.cell (b,9,.vec q2 1 (Fu.1.map d6))] 11 [(0,.v),(1,.v),(2,.v),(3,.v),(4,.v),(5,.k),(6,.v),(7,.v),(8,.f),(9,.v),(10,.e)] none ?_ trivial rfl (by kernel_rfl) (by kernel_rfl) (by kernel_rfl) mixed (by kernel_rfl) rfl
  refine W06 ?_
  refine dU a7 0 rfl rfl rfl (bR 0 rfl rfl c6) (by first | trivial | rfl) ?_
  refine W06 ?_
  refine t2 (tw s hs _ (n:=6) (fn:=(j:Int)) (most:=4) (by omega) (by omega) (by omega)) (bR 0 rfl rfl c6) ?_
  generalize nw s 6 j 4 w=hi at hstep ⊢
  try dsimp only [cK] at hstep
  unfold jE
  refine W0K ?_
  refine fj a7 _ rfl rfl rfl rfl (List.perm_append_comm (l₁:=[_,_])) (by simp;omega) (by simp;omega) (by first | trivial | rfl) fun q'=>?_
  refine OO [2,3,4,11,116,126] KN ?_
  refine aX (aW (List.perm_append_comm (l₂:=[_,_]))) ?_
  refine W0e ?_
  exact aD (j+1,q') rfl ⟨by rw [Ov];rfl,trivial⟩ (by dsimp only;omega) (by dsimp only;omega) (fun _ _ h=>by dsimp only;rw [hstep];dsimp only;rw [List.map_append];exact h)
 have hjk:j=k':=by have:=Ox h;omega
 subst hjk
 clear hstep
 generalize e6:iQ s j k2.2=fu at hfl ⊢
 refine W01 ?_
 refine aX (bB 0 rfl fun σ vs h=>cJ (k:=9) (c':= .imm 1 (fu.1.map d6)) h rfl fun v hv=>VR.im hv) ?_
 refine aX (bS (L':=[ee b s ⟨aG U,.vec none 9 [],.vec none 2 [],bV,.vec none 2 [],.imm 4 (A.1.map cS),.imm 1 (rg.1.map bW),.imm 1 (fu.1.map d6),.vec none 1 []⟩ fu.2,tB tb]) (List.Sublist.cons_cons _ (List.Sublist.cons_cons _ (List.nil_sublist _)))) ?_
 refine cL ?_
 have hk3:=co s hs fu.2.a (n:=4) (by omega)
 have hk3:0≤(dr s 4 fu.2).1∧(dr s 4 fu.2).1 < 4:=hk3
 generalize e7:dr s 4 fu.2=k3 at hk3 ⊢
 obtain ⟨k'',hkk3⟩:∃k:Nat,k3.1=k:=⟨k3.1.toNat,by omega⟩
 rw [hkk3]
 refine W03 ?_
 refine aJ [2,3,4] (α:=Nat×Option (Nat×Nat)) (fun x=>[(12,aG x.1)]) (fun x=>x.1≤k'') (fun x=>[ee b s ⟨aG U,.vec none 9 [],.vec none 2 [],bV,.vec none 2 [],.imm 4 (A.1.map cS),.imm 1 (rg.1.map bW),.imm 1 (fu.1.map d6),.vec x.2 1 (aL (rh s x.1 k3.2).1)⟩ (rh s x.1 k3.2).2,tB tb]++tok x.2 3 1 (aL (rh s x.1 k3.2).1).length) (fun x=>k'' - x.1) (0,none) rfl ⟨rfl,trivial⟩ (Nat.zero_le _) (fun _ _ h=>h) ?_
 rintro ⟨jc,q3⟩ hjc
 dsimp only at hjc ⊢
 have hcl:=DX s jc k3.2
 have hstep:rh s (jc+1) k3.2=(c8 (dr s 500) fun z=>cK ((rh s jc k3.2).1++[z - 100])) (rh s jc k3.2).2:=rfl
 try dsimp only [Oq,Oo,Om,Oh]
 refine W01 ?_
 refine aw rfl (fun h=>?_) (fun h=>?_)
 ·have hjk:jc < k'':=by have:=Oy h;omega
  generalize rh s jc k3.2=C at hcl hstep ⊢
  have hclm:(aL C.1).length=C.1.length:=aP _
  unfold c8 at hstep
  refine W0z ?_
  refine dE [.cell (b,10,.vec q3 1 (aL C.1))] 11 [(0,.v),(1,.v),(2,.v),(3,.v),(4,.v),(5,.k),(6,.v),(7,.f),(8,.v),(9,.v),(10,.e)] none ?_ trivial rfl (by kernel_rfl) (by kernel_rfl) (by kernel_rfl) mixed (by kernel_rfl) rfl
  refine W06 ?_
  refine dU a7 0 rfl rfl rfl (bR 0 rfl rfl c6) (by first | trivial | rfl) ?_
  refine W06 ?_
  refine eO (bR 0 rfl rfl c6) ?_
  have hz:=co s hs C.2.a (n:=500) (by omega)
  have hz:0≤(dr s 500 C.2).1∧(dr s 500 C.2).1 < 500:=hz
  generalize dr s 500 C.2=z at hz hstep ⊢
  try dsimp only [cK] at hstep
  repeat' (first|refine aE ?_|(apply dQ;refine eY ?_)|refine ec a7 ?_|fail)
  refine fj a7 _ rfl rfl rfl rfl (List.perm_append_comm (l₁:=[_,_])) (by simp [aP];omega) (by simp [aP];omega) (by first | trivial | rfl) fun q'=>?_
  refine OO [2,3,4,12,137,147] KN ?_
  refine aX (aW (List.perm_append_comm (l₂:=[_,_]))) ?_
  refine W0e ?_
  exact aD (jc+1,q') rfl ⟨by rw [Ov];rfl,trivial⟩ (by dsimp only;omega) (by dsimp only;omega) (fun _ _ h=>by dsimp only;rw [hstep];dsimp only;rw [show aL (C.1++[z.1 - 100])=aL C.1++[[aG (z.1 - 100)]] from List.map_append ..];exact h)
 have hjk:jc=k'':=by have:=Ox h;omega
 subst hjk
 clear hstep
 generalize e8:rh s jc k3.2=cv at hcl ⊢
 refine W01 ?_
 refine aX (bB 0 rfl fun σ vs h=>cJ (k:=10) (c':= .imm 1 (aL cv.1)) h rfl fun v hv=>VR.im hv) ?_
 refine aX (bS (L':=[ee b s ⟨aG U,.vec none 9 [],.vec none 2 [],bV,.vec none 2 [],.imm 4 (A.1.map cS),.imm 1 (rg.1.map bW),.imm 1 (fu.1.map d6),.imm 1 (aL cv.1)⟩ cv.2,tB tb]) (List.Sublist.cons_cons _ (List.Sublist.cons_cons _ (List.nil_sublist _)))) ?_
 refine cL ?_
 have hk4:=co s hs cv.2.a (n:=9) (by omega)
 have hk4:0≤(dr s 9 cv.2).1∧(dr s 9 cv.2).1 < 9:=hk4
 generalize e9:dr s 9 cv.2=k4 at hk4 ⊢
 obtain ⟨n,hkk4⟩:∃k:Nat,2+k4.1=k:=⟨(2+k4.1).toNat,by omega⟩
 refine W0c ?_
 rw [hkk4]
 have hrgl:(rg.1.map bW).length=rg.1.length:=Ou ..
 have hful:(fu.1.map d6).length=fu.1.length:=Ou ..
 have hrg3:rg.1.length≤1000:=by
  have hR:bX (fP s A.1.length) fun l=>l.length≤3:=bX.ite (fun _=>bX.ret (Nat.zero_le _)) fun _=>(d3 s (by omega)).bnd fun n hn m=>by rw [tN];omega
  have:=hR A.2
  rw [hal] at this
  rw [←e4]
  omega
 refine aJ [2,3,4] (α:=Nat×Option (Nat×Nat)) (fun x=>[(13,aG x.1)]) (fun x=>x.1≤n) (fun x=>[ee b s ⟨aG U,.vec x.2 9 ((gp s rg.1.length fu.1.length x.1 k4.2).1.map bG),.vec none 2 [],bV,.vec none 2 [],.imm 4 (A.1.map cS),.imm 1 (rg.1.map bW),.imm 1 (fu.1.map d6),.imm 1 (aL cv.1)⟩ (gp s rg.1.length fu.1.length x.1 k4.2).2,tB tb]++tok x.2 67 9 ((gp s rg.1.length fu.1.length x.1 k4.2).1.map bG).length) (fun x=>n - x.1) (0,none) rfl ⟨rfl,trivial⟩ (Nat.zero_le _) (fun _ _ h=>h) ?_
 rintro ⟨jg,q4⟩ hjg
 dsimp only at hjg ⊢
 have hgl:=vY s rg.1.length fu.1.length jg k4.2
 have hstep:gp s rg.1.length fu.1.length (jg+1) k4.2=(c8 (ku s rg.1.length fu.1.length jg) fun g=>cK ((gp s rg.1.length fu.1.length jg k4.2).1++[g])) (gp s rg.1.length fu.1.length jg k4.2).2:=rfl
 try dsimp only [Oq,Oo,Om,Oh]
 refine W01 ?_
 refine aw rfl (fun h=>?_) (fun h=>?_)
 ·have hjn:jg < n:=by have:=Oy h;omega
  generalize gp s rg.1.length fu.1.length jg k4.2=Gs at hgl hstep ⊢
  have hglm:(Gs.1.map bG).length=Gs.1.length:=Ou ..
  unfold c8 at hstep
  refine W03 ?_
  refine bh ([ee b s ⟨aG U,.vec q4 9 (Gs.1.map bG),.vec none 2 [],bV,.vec none 2 [],.imm 4 (A.1.map cS),.imm 1 (rg.1.map bW),.imm 1 (fu.1.map d6),.imm 1 (aL cv.1)⟩ Gs.2]++(tok q4 67 9 (Gs.1.map bG).length++[])) [tB tb] (Ej s hs ⟨aG U,.vec q4 9 (Gs.1.map bG),.vec none 2 [],bV,.vec none 2 [],.imm 4 (A.1.map cS),.imm 1 (rg.1.map bW),.imm 1 (fu.1.map d6),.imm 1 (aL cv.1)⟩ rfl rfl rfl rg.1.length fu.1.length jg hrgl hful (by omega) (by omega) (by omega) (by omega) b Gs.2) rfl rfl Fe rfl fun c L1 ⟨q',hL1⟩=>?_
  subst hL1
  refine aX (aW Fe.symm) ?_
  generalize ku s rg.1.length fu.1.length jg Gs.2=g at hstep ⊢
  try dsimp only [cK] at hstep
  refine W02 ?_
  exact aD (jg+1,q') rfl ⟨by rw [Ov];rfl,trivial⟩ (by dsimp only;omega) (by dsimp only;omega) (fun _ _ h=>by dsimp only;rw [hstep];dsimp only;rw [List.map_append];exact h)
 have hjn:jg=n:=by have:=Ox h;omega
 subst hjn
 clear hstep
 generalize e10:gp s rg.1.length fu.1.length jg k4.2=gl at hgl ⊢
 have hglm:(gl.1.map bG).length=gl.1.length:=Ou ..
 repeat' (first|refine O1 ?_|fail)
 refine b9 (hc:=⟨Cz⟩) ?_
 refine aX (bS (L':=[ee b s ⟨aG U,.vec q4 9 (gl.1.map bG),.vec none 2 [],bV,.vec none 2 [],.imm 4 (A.1.map cS),.imm 1 (rg.1.map bW),.imm 1 (fu.1.map d6),.imm 1 (aL cv.1)⟩ gl.2,tB tb]) (List.Sublist.cons_cons _ (List.Sublist.cons_cons _ (List.nil_sublist _)))) ?_
 refine W03 ?_
 have hr16:(aL fB).length=16:=rfl
 refine aJ [2,3,14] (α:=Nat×Option (Nat×Nat)) (fun x=>[(15,aG x.1)]) (fun x=>x.1≤16) (fun x=>[ee b s ⟨aG U,.vec q4 9 (gl.1.map bG),.vec x.2 2 ((ia s gl.1.length x.1 gl.2).1.map dv),bV,.vec none 2 [],.imm 4 (A.1.map cS),.imm 1 (rg.1.map bW),.imm 1 (fu.1.map d6),.imm 1 (aL cv.1)⟩ (ia s gl.1.length x.1 gl.2).2,tB tb]++tok x.2 58 2 ((ia s gl.1.length x.1 gl.2).1.map dv).length) (fun x=>16 - x.1) (0,none) rfl ⟨rfl,trivial⟩ (Nat.zero_le _) (fun _ _ h=>h) ?_
 rintro ⟨jr,q5⟩ hjr
 dsimp only at hjr ⊢
 have hcl2:=xF s gl.1.length jr gl.2
 have hstep:ia s gl.1.length (jr+1) gl.2=(c8 (dr s 4) fun z=>if 0 < z then c8 (dr s gl.1.length) fun g=>cK ((ia s gl.1.length jr gl.2).1++[(⟨fB.getD jr 0,g⟩:dt)]) else cK (ia s gl.1.length jr gl.2).1) (ia s gl.1.length jr gl.2).2:=rfl
 try dsimp only [Oq,Oo,Om,Oh]
 refine W01 ?_
 refine aw rfl (fun h=>?_) (fun h=>?_)
 ·have hj16:jr < 16:=by have:=Oy h;rw [hr16] at this;omega
  have hrn:(aL fB)[jr]?=some [aG (fB.getD jr 0)]:=bD (kr hj16 0)
  generalize fB.getD jr 0=rn at hrn hstep
  generalize ia s gl.1.length jr gl.2=Ch at hcl2 hstep ⊢
  have hchm:(Ch.1.map dv).length=Ch.1.length:=Ou ..
  unfold c8 at hstep
  refine W03 ?_
  refine cL ?_
  generalize dr s 4 Ch.2=z at hstep ⊢
  dsimp only at hstep
  refine W01 ?_
  refine aw rfl (fun hz=>?_) (fun hz=>?_)
  ·rw [if_pos (Oy hz)] at hstep
   repeat' (first|fail)
   refine dE [.cell (b,4,.vec q5 2 (Ch.1.map dv))] 21 [(0,.v),(1,.v),(2,.v),(3,.v),(4,.v),(5,.k),(6,.v),(7,.v),(8,.v),(9,.v),(10,.v),(11,.v),(12,.v),(13,.v),(14,.v),(15,.l),(16,.v),(17,.f),(18,.v),(19,.v),(20,.e)] none ?_ trivial rfl (by kernel_rfl) (by kernel_rfl) (by kernel_rfl) mixed (by kernel_rfl) rfl
   refine W06 ?_
   refine dU a7 0 rfl rfl rfl (bR 0 rfl rfl c6) (by first | trivial | rfl) ?_
   refine W18 ?_
   rw [hglm]
   refine eO (bR 0 rfl rfl c6) ?_
   generalize dr s gl.1.length z.2=g at hstep ⊢
   try dsimp only [cK] at hstep
   refine W0R ?_
   refine fj a7 _ rfl rfl rfl rfl (List.perm_append_comm (l₁:=[_,_])) (by simp;omega) (by simp;omega) (by first | trivial | rfl) fun q'=>?_
   refine OO [2,3,14,15,172,192] KN ?_
   refine aX (aW (List.perm_append_comm (l₂:=[_,_]))) ?_
   refine W0e ?_
   exact aD (jr+1,q') rfl ⟨by rw [Ov];rfl,trivial⟩ (by dsimp only;omega) (by dsimp only;omega) (fun _ _ h=>by dsimp only;rw [hstep];dsimp only;rw [List.map_append];exact h)
  ·rw [if_neg (Ox hz)] at hstep
   try dsimp only [cK] at hstep
   refine W02 ?_
   exact aD (jr+1,q5) rfl ⟨by rw [Ov];rfl,trivial⟩ (by dsimp only;omega) (by dsimp only;omega) (fun _ _ h=>by dsimp only;rw [hstep];exact h)
 have hj16:jr=16:=by have:=Ox h;rw [hr16] at this;omega
 subst hj16
 clear hstep
 generalize e11:ia s gl.1.length 16 gl.2=ch at hcl2 ⊢
 refine W01 ?_
 refine aX (bB 0 rfl fun σ vs h=>cJ (k:=4) (c':= .imm 2 (ch.1.map dv)) h rfl fun v hv=>VR.im hv) ?_
 refine aX (bS (L':=[ee b s ⟨aG U,.vec q4 9 (gl.1.map bG),.imm 2 (ch.1.map dv),bV,.vec none 2 [],.imm 4 (A.1.map cS),.imm 1 (rg.1.map bW),.imm 1 (fu.1.map d6),.imm 1 (aL cv.1)⟩ ch.2]++[tB tb]) (List.Sublist.cons_cons _ (List.Sublist.cons_cons _ (List.nil_sublist _)))) ?_
 refine bh [ee b s ⟨aG U,.vec q4 9 (gl.1.map bG),.imm 2 (ch.1.map dv),bV,.vec none 2 [],.imm 4 (A.1.map cS),.imm 1 (rg.1.map bW),.imm 1 (fu.1.map d6),.imm 1 (aL cv.1)⟩ ch.2] [tB tb] (yg s hs ⟨aG U,.vec q4 9 (gl.1.map bG),.imm 2 (ch.1.map dv),bV,.vec none 2 [],.imm 4 (A.1.map cS),.imm 1 (rg.1.map bW),.imm 1 (fu.1.map d6),.imm 1 (aL cv.1)⟩ rfl rfl gl.1.length hglm (by omega) b ch.2) rfl rfl (Ok _) rfl fun c L1 hL1=>?_
 subst hL1
 have hlk6:=(pI s (n:=gl.1.length) (by omega) ch.2).len
 generalize e12:iT s gl.1.length ch.2=lk at hlk6 ⊢
 have hlkm:(lk.1.map bC).length=lk.1.length:=Ou ..
 repeat' (first|refine O1 ?_|fail)
 refine b9 (hc:=⟨wq⟩) ?_
 refine aX (aW (L':=[ee b s ⟨aG U,.vec q4 9 (gl.1.map bG),.imm 2 (ch.1.map dv),.imm 3 (lk.1.map bC),.vec none 2 [],.imm 4 (A.1.map cS),.imm 1 (rg.1.map bW),.imm 1 (fu.1.map d6),.imm 1 (aL cv.1)⟩ lk.2,tB tb]) (Ok _)) ?_
 refine W03 ?_
 have hn8:(fK gR).length=8:=rfl
 refine aJ [2,3,16] (α:=Nat×Option (Nat×Nat)) (fun x=>[(17,aG x.1)]) (fun x=>x.1≤8) (fun x=>[ee b s ⟨aG U,.vec q4 9 (gl.1.map bG),.imm 2 (ch.1.map dv),.imm 3 (lk.1.map bC),.vec x.2 2 ((ic s lk.1.length x.1 lk.2).1.map bI),.imm 4 (A.1.map cS),.imm 1 (rg.1.map bW),.imm 1 (fu.1.map d6),.imm 1 (aL cv.1)⟩ (ic s lk.1.length x.1 lk.2).2,tB tb]++tok x.2 78 2 ((ic s lk.1.length x.1 lk.2).1.map bI).length) (fun x=>8 - x.1) (0,none) rfl ⟨rfl,trivial⟩ (Nat.zero_le _) (fun _ _ h=>h) ?_
 rintro ⟨jf,q6⟩ hjf
 dsimp only at hjf ⊢
 have hftl:=xP s lk.1.length jf lk.2
 have hstep:ic s lk.1.length (jf+1) lk.2=(c8 (ou s lk.1.length) fun r=>c8 (dr s 2) fun z=>cK (if z=0 then (ic s lk.1.length jf lk.2).1++[(⟨gR.getD jf ByteArray.empty,r⟩:bz)] else (ic s lk.1.length jf lk.2).1)) (ic s lk.1.length jf lk.2).2:=rfl
 try dsimp only [Oq,Oo,Om,Oh]
 refine W01 ?_
 refine aw rfl (fun h=>?_) (fun h=>?_)
 ·have hj8:jf < 8:=by have:=Oy h;rw [hn8] at this;omega
  have hnm:(fK gR)[jf]?=some [oh (gR.getD jf ByteArray.empty)]:=o4 (kr hj8 ByteArray.empty)
  generalize gR.getD jf ByteArray.empty=nm at hnm hstep
  generalize ic s lk.1.length jf lk.2=Ft at hftl hstep ⊢
  have hftm:(Ft.1.map bI).length=Ft.1.length:=Ou ..
  unfold c8 at hstep
  refine W03 ?_
  refine bM (bq (t:=18) (c':= .vec none 1 []) rfl fun σ v h=>cM 1 h) ?_
  refine aJ [2,3,16,17] (α:=Nat×Option (Nat×Nat)) (fun x=>[(19,aG x.1),(18,.vec x.2 1 (aL (ou s x.1 Ft.2).1))]) (fun x=>x.1≤lk.1.length) (fun x=>[ee b s ⟨aG U,.vec q4 9 (gl.1.map bG),.imm 2 (ch.1.map dv),.imm 3 (lk.1.map bC),.vec q6 2 (Ft.1.map bI),.imm 4 (A.1.map cS),.imm 1 (rg.1.map bW),.imm 1 (fu.1.map d6),.imm 1 (aL cv.1)⟩ (ou s x.1 Ft.2).2,tB tb]++(tok x.2 3 1 (aL (ou s x.1 Ft.2).1).length++tok q6 78 2 (Ft.1.map bI).length)) (fun x=>lk.1.length - x.1) (0,none) rfl ⟨rfl,rfl,trivial⟩ (Nat.zero_le _) (fun _ _ h=>h) ?_
  rintro ⟨a,q7⟩ ha
  dsimp only at ha ⊢
  have hal7:=Du s a Ft.2
  have hst7:ou s (a+1) Ft.2=(c8 (dr s 3) fun z=>cK (if z=0 then (ou s a Ft.2).1++[(a:Int)] else (ou s a Ft.2).1)) (ou s a Ft.2).2:=rfl
  try dsimp only [Oq,Oo,Om,Oh]
  refine W05 ?_
  refine aw rfl (fun h=>?_) (fun h=>?_)
  ·have hal:a < lk.1.length:=by have:=Oy h;rw [hlkm] at this;omega
   generalize ou s a Ft.2=As at hal7 hst7 ⊢
   have hasm:(aL As.1).length=As.1.length:=aP _
   unfold c8 at hst7
   refine W03 ?_
   refine cL ?_
   generalize dr s 3 As.2=z at hst7 ⊢
   dsimp only [cK] at hst7
   refine W01 ?_
   refine aw rfl (fun hz=>?_) (fun hz=>?_)
   ·rw [if_pos (Oy hz)] at hst7
    refine W0f ?_
    refine bA a7 _ rfl rfl rfl rfl (eQ (A:=[_,_])) (by simp [aP];omega) (by simp [aP];omega) rfl fun q'=>?_
    refine aX (aW (eQ (A:=[_,_])).symm) ?_
    refine W02 ?_
    exact aD (a+1,q') rfl ⟨by rw [Ov];rfl,by rw [hst7];dsimp only;rw [show aL (As.1++[(a:Int)])=aL As.1++[[aG (a:Int)]] from List.map_append ..];rfl,trivial⟩ (by dsimp only;omega) (by dsimp only;omega) (fun _ _ h=>by dsimp only;rw [hst7];dsimp only;rw [show aL (As.1++[(a:Int)])=aL As.1++[[aG (a:Int)]] from List.map_append ..];exact h)
   ·rw [if_neg (Ox hz)] at hst7
    refine W02 ?_
    exact aD (a+1,q7) rfl ⟨by rw [Ov];rfl,by rw [hst7];rfl,trivial⟩ (by dsimp only;omega) (by dsimp only;omega) (fun _ _ h=>by dsimp only;rw [hst7];exact h)
  have hal:a=lk.1.length:=by have:=Ox h;rw [hlkm] at this;omega
  subst hal
  clear hst7
  generalize ou s lk.1.length Ft.2=As at hal7 hstep ⊢
  dsimp only at hstep
  refine W01 ?_
  refine aX (bq (t:=18) (c':= .imm 1 (aL As.1)) rfl fun σ v h=>VR.im h) ?_
  refine aX (bS (L':=[ee b s ⟨aG U,.vec q4 9 (gl.1.map bG),.imm 2 (ch.1.map dv),.imm 3 (lk.1.map bC),.vec q6 2 (Ft.1.map bI),.imm 4 (A.1.map cS),.imm 1 (rg.1.map bW),.imm 1 (fu.1.map d6),.imm 1 (aL cv.1)⟩ As.2,tB tb]++tok q6 78 2 (Ft.1.map bI).length) (List.Sublist.cons_cons _ (List.Sublist.cons_cons _ (List.sublist_append_right _ _)))) ?_
  refine cL ?_
  generalize dr s 2 As.2=z at hstep ⊢
  dsimp only [cK] at hstep
  refine W01 ?_
  refine aw rfl (fun hz=>?_) (fun hz=>?_)
  ·rw [if_pos (Oy hz)] at hstep
   repeat' (first|fail)
   refine bk 14 [(0,.v),(1,.v),(2,.v),(3,.v),(4,.v),(5,.l),(6,.v),(7,.v),(8,.v),(9,.v),(10,.v),(11,.v),(12,.v),(13,.e)] none ?_ trivial rfl (by kernel_rfl) (by kernel_rfl) (by kernel_rfl) mixed (by kernel_rfl) rfl
   repeat' (first|refine aE ?_|refine b6 a7 ?_|(apply c9;refine cA a7 ?_)|refine ec a7 ?_|refine cW a7 0 rfl rfl rfl rfl (by first|trivial|rfl) ?_)
   refine fj a7 _ rfl rfl rfl rfl (List.perm_append_comm (l₁:=[_,_])) (by simp;omega) (by simp;omega) (by first | trivial | rfl) fun q'=>?_
   refine OO [2,3,16,17,225,238] KN ?_
   refine aX (aW (List.perm_append_comm (l₂:=[_,_]))) ?_
   refine W0e ?_
   exact aD (jf+1,q') rfl ⟨by rw [Ov];rfl,trivial⟩ (by dsimp only;omega) (by dsimp only;omega) (fun _ _ h=>by dsimp only;rw [hstep];dsimp only;rw [List.map_append];exact h)
  ·rw [if_neg (Ox hz)] at hstep
   refine W02 ?_
   exact aD (jf+1,q6) rfl ⟨by rw [Ov];rfl,trivial⟩ (by dsimp only;omega) (by dsimp only;omega) (fun _ _ h=>by dsimp only;rw [hstep];exact h)
 have hj8:jf=8:=by have:=Ox h;rw [hn8] at this;omega
 subst hj8
 clear hstep
 generalize e13:ic s lk.1.length 8 lk.2=ft at hftl ⊢
 repeat' (first|refine O1 ?_|refine OE a7 KN ?_|(apply bU;first|refine OH a7 0 OB ?_|refine OH a7 1 OB ?_|refine OH a7 2 OB ?_|refine OH a7 3 OB ?_|refine OJ a7 0 OB ?_|refine OJ a7 1 OB ?_|refine OJ a7 2 OB ?_|refine OM a7 1 NZ (by assumption) rfl ?_|refine OM a7 0 NZ (by assumption) rfl ?_|fail)|(apply aO;first|refine OG 6 a7 0 OD ?_|refine OG 6 a7 1 OD ?_|refine OG 6 a7 2 OD ?_|refine OF a7 0 OC ?_|refine OF a7 1 OC ?_|refine OF a7 2 OC ?_|refine OF a7 3 OC ?_|fail))
 have hv:pJ s=⟨U,gl.1,ch.1,lk.1,ft.1,A.1,rg.1,fu.1,cv.1⟩:=by
  unfold pJ EG c8
  rw [e1]
  try dsimp only
  rw [e2]
  try dsimp only
  rw [hkk,Int.toNat_natCast,e3]
  try dsimp only
  rw [e4,e5]
  try dsimp only
  rw [hkk2,Int.toNat_natCast,e6]
  try dsimp only
  rw [e7]
  try dsimp only
  rw [hkk3,Int.toNat_natCast,e8]
  try dsimp only
  rw [e9]
  try dsimp only
  rw [hkk4,Int.toNat_natCast,e10]
  try dsimp only
  rw [e11]
  try dsimp only
  rw [e12]
  try dsimp only
  rw [e13,hU]
  rfl
 rw [hv]
 exact b7 (bB 1 (cs':=cf ⟨U,gl.1,ch.1,lk.1,ft.1,A.1,rg.1,fu.1,cv.1⟩) rfl fun σ vs h=>l8.vrs (a:=[aG U,.vec q4 9 (gl.1.map bG),.imm 2 (ch.1.map dv),.imm 3 (lk.1.map bC),.vec q6 2 (ft.1.map bI),.imm 4 (A.1.map cS),.imm 1 (rg.1.map bW),.imm 1 (fu.1.map d6),.imm 1 (aL cv.1)]) (b:=cf ⟨U,gl.1,ch.1,lk.1,ft.1,A.1,rg.1,fu.1,cv.1⟩) ⟨d5.refl _,d5.im,d5.refl _,d5.refl _,d5.im,d5.refl _,d5.refl _,d5.refl _,d5.refl _,trivial⟩ h) (iv a7 1 [] rfl rfl rfl rfl rfl (List.nil_sublist _) rfl)
end Go.Proofs.YtamjlkdanllgjaaGreatDoor
namespace Go.Proofs.YtamjlkdanllgjaaGreatDoor
theorem mO {α:Type} {g:α→Nat} {l:List α} {k:Nat} (h:∀a∈l,g a≤k):(l.map g).sum≤l.length * k:=by
 induction l with
 | nil=>simp
 | cons b l ih=>
  rw [Om,List.sum_cons,List.length_cons,Nat.succ_mul]
  have:=ih fun a ha=>h a (Ot _ ha)
  have:=h b (List.mem_cons_self ..)
  omega
section
variable {f:aY}
theorem Ek:∀n < 10,j9 (d7 n)=true∧(d7 n).size≤16:=by decide
end
variable {f:aY} (h:pg f)
include h
theorem pg.del {i:Nat} {g:bn} (hi:f.Glyphs[i]?=some g):g.Points.length≤10∧g.Deltas.length≤33:=by
 have hg:=h.gly i g hi
 obtain ⟨k,hk,ho⟩:=hg.out
 have h1:=ho.len
 have h2:=hg.dels.len
 have h3:=h.regs
 dsimp only at h1
 refine ⟨by omega,Nat.le_trans h2 ?_⟩
 exact Nat.le_trans (Nat.mul_le_mul h3 (show g.Points.length+1≤11 by omega)) (by omega)
def Nv (f:aY) (z:Int):Nat:=match f.Glyphs[z.toNat]? with | some g=>g.Parts.length | none=>0
def N8 (f:aY) (z:Int):Nat:=match f.Glyphs[z.toNat]? with | some g=>g.Points.length | none=>0
omit h in
theorem wr:∀s∈gR,fZ s=true∧s.size≤8:=by decide
omit h in
theorem ff.sets {n:Int} {k:Nat} {l:List (List Int)} (h:ff n k l):wQ l≤k * 5:=by
 unfold wQ
 refine Nat.le_trans (mO (k:=5) fun q hq=>?_) (Nat.mul_le_mul_right _ h.1)
 have:=(h.2 q hq).few
 omega
theorem pg.size:tj f≤1950:=by
 have hg:(f.Glyphs.map y5).sum≤10 * 95:=by
  refine Nat.le_trans (mO (k:=95) fun g hg=>?_) (Nat.mul_le_mul_right _ h.glyN.2)
  obtain ⟨i,hi⟩:=List.mem_iff_getElem?.1 hg
  have h1:=h.del hi
  have h2:=h.gly i g hi
  have h3:=h2.hint.1
  have h4:g.Parts.length≤1:=by
   rcases h2.parts with e | ⟨_,x,y,e,_⟩
   ·rw [e];simp
   ·rw [e];simp
  obtain ⟨cl,_,han⟩:=h2.anch
  have h5:=han.sub.length_le
  simp only [Ou,ij,List.length_cons,List.length_nil] at h5
  have h6:g.Name.size≤16:=by rw [h2.name];exact (Ek i (by have:=(Ol hi).1;have:=h.glyN;omega)).2
  unfold y5
  omega
 have hl:(f.Lookups.map fun l=>yK l.Rules).sum≤6 * 126:=by
  refine Nat.le_trans (mO (k:=126) fun l hl=>?_) (Nat.mul_le_mul_right _ h.looks.len)
  have h1:=h.looks.few l hl
  have:(l.Rules.map FB).sum≤3 * 41:=by
   refine Nat.le_trans (mO (k:=41) fun r hr=>?_) (Nat.mul_le_mul_right _ h1)
   obtain ⟨calls,h2,_⟩:=h.looks.rule l hl r hr
   have h3:=h2.back.sets
   have h4:=h2.ahead.sets
   have h5:=h2.ins.sets
   have h6:=h2.outs.1
   have h7:=h2.callsN
   unfold FB
   omega
  unfold yK
  omega
 have hf:(f.Funcs.map (·.length)).sum≤2 * 45:=Nat.le_trans (mO (k:=45) fun c hc=>(h.func c hc).1) (Nat.mul_le_mul_right _ h.funcs)
 have hfl:=h.featN.length_le
 simp only [Ou,gR,List.length_cons,List.length_nil] at hfl
 have ht:(f.Features.map Go.Proofs.YtamjlkdanllgjaaGreatDoor.featN).sum≤8 * 6:=by
  refine Nat.le_trans (mO (k:=6) fun t ht=>?_) (Nat.mul_le_mul_right _ hfl)
  have h1:=(h.featL t ht).2.1
  have h2:=(wr _ (h.featN.subset (List.mem_map_of_mem ht))).2
  unfold Go.Proofs.YtamjlkdanllgjaaGreatDoor.featN
  omega
 have hr:(f.Regions.map (·.length)).sum≤3 * 2:=Nat.le_trans (mO (k:=2) fun r hr=>by rw [(h.reg r hr).1];exact h.axes) (Nat.mul_le_mul_right _ h.regs)
 have:=h.glyN
 have:=h.chars
 have:=h.looks.len
 have:=h.axes
 have:=h.regs
 have:=h.funcs
 have:=h.cvt
 unfold tj
 omega
theorem pg.small:ph f:=Nat.le_trans h.size (by decide)
end Go.Proofs.YtamjlkdanllgjaaGreatDoor
