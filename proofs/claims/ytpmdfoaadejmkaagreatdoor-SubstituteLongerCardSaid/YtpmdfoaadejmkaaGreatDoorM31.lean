/-
  The maker: fonts.
-/
import Derived.Test.YtpmdfoaadejmkaaGreatDoorM30
namespace Go.Proofs.YtpmdfoaadejmkaaGreatDoor
open Go.RowKit
attribute [local irreducible] AT br AX AO Av Kt bb df DA cC
variable (s:List Int) (hs:s.length≤1000000)
theorem BB {a c:Nat×AB} {T:AL}:([a,c]++T).Perm (([a]++(T++[]))++[c]):=by
 rw [List.append_nil]
 exact List.Perm.cons a (List.perm_append_comm (l₁:=[c]))
theorem GF {A T:AL} {c:Nat×AB}:((A++T)++[c]).Perm ((A++[c])++T):=by
 rw [List.append_assoc,List.append_assoc]
 exact List.Perm.append_left _ List.perm_append_comm
theorem yN:bN Tryz.prog 92 [] (.imm 1 (aT fJ)):=by
 refine aN Tryz.func92 rfl Tryz.ntmps92 rfl fun B=>?_
 repeat' (first|refine If ?_|refine IF a5 FN ?_|refine bG a5 ?_|fail)
 exact IM IA
theorem u6:bN Tryz.prog 94 [] (.imm 1 (BZ fI)):=by
 refine aN Tryz.func94 rfl Tryz.ntmps94 rfl fun B=>?_
 repeat' (first|refine If ?_|refine IF a5 FN ?_|refine bG a5 ?_|fail)
 exact IM IA
theorem qS (k:Nat) (m:MS):(kj s k m).1.length=k:=by
 exact (bK.runs (fun i (l:List ee)=>l.length=i) k rfl fun i l _ h=>(bK.any _).bnd fun a _=>(bK.any _).bnd fun b _=>bK.ret (by simp [h])) m
theorem wg (k:Nat) (m:MS):(gP s k m).1.length=k:=by
 exact (bK.runs (fun i (l:List eO)=>l.length=i) k rfl fun i l _ h=>(bK.any _).bnd fun a _=>bK.ret (by simp [h])) m
theorem rC (x k:Nat) (m:MS):(jZ s x k m).1.length=k:=by
 exact (bK.runs (fun i (l:List (List eO))=>l.length=i) k rfl fun i l _ h=>(bK.any _).bnd fun a _=>bK.ret (by simp [h])) m
theorem vq (k:Nat) (m:MS):(ie s k m).1.length=k:=by
 exact (bK.runs (fun i (l:List (List fS))=>l.length=i) k rfl fun i l _ h=>(bK.any _).bnd fun a _=>(bK.any _).bnd fun b _=>bK.ret (by simp [h])) m
theorem A3 (k:Nat) (m:MS):(pp s k m).1.length=k:=by
 exact (bK.runs (fun i (l:List Int)=>l.length=i) k rfl fun i l _ h=>(bK.any _).bnd fun a _=>bK.ret (by simp [h])) m
theorem tP (R fn k:Nat) (m:MS):(g8 s R fn k m).1.length=k:=by
 exact (bK.runs (fun i (l:List bj)=>l.length=i) k rfl fun i l _ h=>(bK.any _).bnd fun a _=>bK.ret (by simp [h])) m
theorem vb (n:Int) (k:Nat) (m:MS):(gL s n k m).1.length≤k:=by
 exact (bK.runs (fun i (l:List fV)=>l.length≤i) k (Nat.le_refl _) fun i l _ h=>(bK.any _).bnd fun a _=>bK.ite (fun _=>(bK.any _).bnd fun b _=>bK.ret (by simp;omega)) fun _=>bK.ret (by omega)) m
theorem zE (k:Nat) (m:MS):(n8 s k m).1.length≤k:=by
 exact (bK.runs (fun i (l:List Int)=>l.length≤i) k (Nat.le_refl _) fun i l _ h=>(bK.any _).bnd fun a _=>bK.ret (by
  split
  ·simp;omega
  ·omega)) m
theorem vk (n k:Nat) (m:MS):(gN s n k m).1.length≤k:=by
 exact (bK.runs (fun i (l:List bV)=>l.length≤i) k (Nat.le_refl _) fun i l _ h=>(bK.any _).bnd fun a _=>(bK.any _).bnd fun b _=>bK.ret (by
  split
  ·simp;omega
  ·omega)) m
abbrev tB (tb:Nat):Nat×AB:=(tb,.box [aF 0,bF,bF,bF,bF,bF,bF,bF,bF] 32)
include hs
set_option maxHeartbeats 32000000 in
theorem B9:bN Tryz.prog 32 [.imm 1 (aT s)] (cQ (jY s)):=by
 refine aN Tryz.func32 rfl Tryz.ntmps32 rfl fun B=>?_
 repeat' (first|refine If ?_|refine IF a5 FN ?_|refine wX (d:=22) fun _=>?_|refine bh a5 fun _=>?_|refine bG a5 ?_|fail)
 rename_i tb b
 refine aJ (aI (L':=[dG b s ⟨aF 0,bF,bF,bF,bF,bF,bF,bF,bF⟩ ⟨0,0⟩,tB tb]) (Io _)) ?_
 refine aJ (bo 0 (cs':=Gz s ⟨aF 0,.vec none 9 [],.vec none 2 [],bF,.vec none 2 [],.vec none 4 [],.vec none 1 [],.vec none 1 [],.vec none 1 []⟩ ⟨0,0⟩) rfl fun σ vs h=>cr (k:=3) (cr (k:=4) (cr (k:=6) (cr (k:=7) (cr (k:=8) (cr (k:=9) (cr (k:=10) h rfl fun v hv=>cJ 1 hv) rfl fun v hv=>cJ 1 hv) rfl fun v hv=>cJ 1 hv) rfl fun v hv=>cJ 4 hv) rfl fun v hv=>cJ 2 hv) rfl fun v hv=>cJ 2 hv) rfl fun v hv=>cJ 9 hv) ?_
 refine cu ?_
 have hu:=cg s hs 0 (n:=4) (by omega)
 have hu:0≤(dr s 4 ⟨0,0⟩).1∧(dr s 4 ⟨0,0⟩).1 < 4:=hu
 generalize e1:dr s 4 ⟨0,0⟩=u at hu ⊢
 have hul:(aT lV)[u.1.toNat]?=some [aF (lV.getD u.1.toNat 0)]:=bR (l6 (by simp only [lV,List.length_cons,List.length_nil];omega) 0)
 generalize hU:lV.getD u.1.toNat 0=U at hul
 repeat' (first|refine If ?_|refine IF a5 FN ?_|(apply aS;first|refine aR a5 ?_|refine aH a5 ?_)|(apply aM;first|refine IH 6 a5 0 IE ?_|refine IH 6 a5 1 IE ?_|refine IH 6 a5 2 IE ?_|refine IG a5 0 ID ?_|refine IG a5 1 ID ?_|refine IG a5 2 ID ?_|refine IG a5 3 ID ?_|fail))
 refine aJ (aI (L':=[dG b s ⟨aF U,.vec none 9 [],.vec none 2 [],bF,.vec none 2 [],.vec none 4 [],.vec none 1 [],.vec none 1 [],.vec none 1 []⟩ u.2,tB tb]) (Io _)) ?_
 refine cu ?_
 have hk:=cg s hs u.2.a (n:=3) (by omega)
 have hk:0≤(dr s 3 u.2).1∧(dr s 3 u.2).1 < 3:=hk
 generalize e2:dr s 3 u.2=k1 at hk ⊢
 obtain ⟨k,hkk⟩:∃k:Nat,k1.1=k:=⟨k1.1.toNat,by omega⟩
 rw [hkk]
 repeat' (first|refine If ?_|refine ak ?_|refine IF a5 FN ?_)
 refine aO [2,3,4] (α:=Nat×Option (Nat×Nat)) (fun x=>[(5,aF x.1)]) (fun x=>x.1≤k) (fun x=>[dG b s ⟨aF U,.vec none 9 [],.vec none 2 [],bF,.vec none 2 [],.vec x.2 4 ((kj s x.1 k1.2).1.map cE),.vec none 1 [],.vec none 1 [],.vec none 1 []⟩ (kj s x.1 k1.2).2,tB tb]++tok x.2 123 4 ((kj s x.1 k1.2).1.map cE).length) (fun x=>k - x.1) (0,none) rfl ⟨rfl,trivial⟩ (Nat.zero_le _) (fun _ _ h=>h) ?_
 rintro ⟨i,q⟩ hi
 dsimp only at hi ⊢
 have hal:=qS s i k1.2
 have hstep:kj s (i+1) k1.2=(bX (dr s 3) fun a=>bX (dr s 4) fun b=>ret ((kj s i k1.2).1++[(⟨iP tl i,0 - a * 100,0,b * 100⟩:ee)])) (kj s i k1.2).2:=rfl
 try dsimp only [Is,Ir,Iq,Ik]
 repeat' (first|refine If ?_|refine IF a5 FN ?_)
 refine aq rfl (fun h=>?_) (fun h=>?_)
 ·have hil:i < k:=by have:=Iy h;omega
  generalize kj s i k1.2=A at hal hstep ⊢
  have halm:(A.1.map cE).length=A.1.length:=Iu ..
  repeat' (first|refine If ?_|refine ak ?_)
  refine bz 15 [(0,.v),(1,.v),(2,.v),(3,.v),(4,.v),(5,.v),(6,.v),(10,.v),(7,.e),(8,.v),(9,.v),(11,.e),(12,.v),(13,.v)] (some (14,.box _ 123)) ?_ ⟨_,rfl,rfl,fun _ _ _=>m6 (ew a5 rfl) rfl⟩ rfl (by kernel_rfl) (by kernel_rfl) (by kernel_rfl) bT (by kernel_rfl) rfl
  repeat' (first|refine aC ?_|refine b6 a5 ?_|(apply dW;refine fz ?_)|fail)
  refine A6 a5 ?_
  rw [tX i (by omega)]
  repeat' (first|refine aC ?_|refine dS a5 ?_|fail)
  refine wC a5 ?_
  rw [wQ i (by omega)]
  repeat' (first|refine aC ?_|fail)
  refine Ei (hs:=Nat.le_of_ble_eq_true rfl) ?_
  rw [xH]
  repeat' (first|refine aC ?_|refine b6 a5 ?_|fail)
  refine s3 ?_
  have ha:=cg s hs A.2.a (n:=3) (by omega)
  have ha:0≤(dr s 3 A.2).1∧(dr s 3 A.2).1 < 3:=ha
  unfold bX at hstep
  generalize dr s 3 A.2=a at ha hstep ⊢
  dsimp only at hstep
  repeat' (first|refine aC ?_|(apply dW;refine fz ?_)|fail)
  refine s3 ?_
  have hc:=cg s hs a.2.a (n:=4) (by omega)
  have hc:0≤(dr s 4 a.2).1∧(dr s 4 a.2).1 < 4:=hc
  generalize dr s 4 a.2=c at hc hstep ⊢
  try dsimp only [ret] at hstep
  repeat' (first|refine aC ?_|refine b6 a5 ?_|(apply dW;refine fz ?_)|fail)
  refine wF [2,3,4,5,6,52] (fun _=>_) (fun _=>rfl) rfl fun _=>?_
  rename_i ab
  refine aJ (aI (GF (A:=[_,_]))) ?_
  repeat' (first|refine If ?_|(apply aM;first|refine IH 6 a5 0 IE ?_|refine IH 6 a5 1 IE ?_|refine IH 6 a5 2 IE ?_|refine IG a5 0 ID ?_|refine IG a5 1 ID ?_|refine IG a5 2 ID ?_|refine IG a5 3 ID ?_|fail))
  refine bz 9 [(0,.v),(1,.v),(2,.v),(3,.v),(4,.v),(5,.l),(6,.v),(7,.v),(8,.e)] none ?_ trivial rfl (by kernel_rfl) (by kernel_rfl) (by kernel_rfl) bT (by kernel_rfl) rfl
  repeat' (first|refine aC ?_|refine b6 a5 ?_|refine dS a5 ?_|refine bZ a5 0 rfl rfl rfl rfl (by first|trivial|rfl) ?_)
  refine eV a5 _ rfl rfl rfl rfl (List.perm_append_comm (l₁:=[_,_])) (by simp;omega) (by simp;omega) (by first | trivial | rfl) fun q'=>?_
  refine IQ [2,3,4,5,53,61] FN ?_
  refine aJ (aI (List.perm_append_comm (l₂:=[_,_]))) ?_
  repeat' (first|refine If ?_|refine IF a5 FN ?_|(apply aV;refine aU ?_)|(apply aM;first|refine IH 6 a5 0 IE ?_|refine IH 6 a5 1 IE ?_|refine IH 6 a5 2 IE ?_|refine IG a5 0 ID ?_|refine IG a5 1 ID ?_|refine IG a5 2 ID ?_|refine IG a5 3 ID ?_|fail))
  exact aD (i+1,q') rfl ⟨by rw [Iv];rfl,trivial⟩ (by dsimp only;omega) (by dsimp only;omega) (fun _ _ h=>by dsimp only;rw [hstep];dsimp only;rw [List.map_append];exact h)
 have hil:i=k:=by have:=Ix h;omega
 subst hil
 clear hstep
 have hal:=qS s i k1.2
 generalize e3:kj s i k1.2=A at hal ⊢
 repeat' (first|refine If ?_|refine IF a5 FN ?_)
 refine bP (bo 0 rfl fun σ vs h=>cr (k:=7) (c':= .imm 4 (A.1.map cE)) h rfl fun v hv=>VR.im hv) ?_
 refine bP (bM (L':=[dG b s ⟨aF U,.vec none 9 [],.vec none 2 [],bF,.vec none 2 [],.imm 4 (A.1.map cE),.vec none 1 [],.vec none 1 [],.vec none 1 []⟩ A.2,tB tb]) (List.Sublist.cons_cons _ (List.Sublist.cons_cons _ (List.nil_sublist _)))) ?_
 refine rY [2,3,4] ([dG b s ⟨aF U,.vec none 9 [],.vec none 2 [],bF,.vec none 2 [],.imm 4 (A.1.map cE),.imm 1 ((fB s i A.2).1.map bH),.vec none 1 [],.vec none 1 []⟩ (fB s i A.2).2,tB tb]) rfl (fun Q' K=>?_) ?_
 ·refine aq rfl (fun h=>?_) (fun h=>?_)
  ·have hi0:¬i=0:=by have:=Iy h;omega
   repeat' (first|refine If ?_|refine IF a5 FN ?_)
   refine cu ?_
   have hn:=cg s hs A.2.a (n:=4) (by omega)
   have hn:0≤(dr s 4 A.2).1∧(dr s 4 A.2).1 < 4:=hn
   generalize e4:dr s 4 A.2=n1 at hn ⊢
   obtain ⟨n,hnn⟩:∃k:Nat,n1.1=k:=⟨n1.1.toNat,by omega⟩
   have hv:fB s i A.2=jZ s i n n1.2:=by
    unfold fB
    rw [if_neg hi0]
    unfold bX
    rw [e4]
    dsimp only
    rw [hnn,Int.toNat_natCast]
   rw [hv] at K
   rw [hnn]
   repeat' (first|refine If ?_|refine ak ?_|refine IF a5 FN ?_)
   refine aO [2,3,4,7] (α:=Nat×Option (Nat×Nat)) (fun x=>[(8,aF x.1)]) (fun x=>x.1≤n) (fun x=>[dG b s ⟨aF U,.vec none 9 [],.vec none 2 [],bF,.vec none 2 [],.imm 4 (A.1.map cE),.vec x.2 1 ((jZ s i x.1 n1.2).1.map bH),.vec none 1 [],.vec none 1 []⟩ (jZ s i x.1 n1.2).2,tB tb]++tok x.2 128 1 ((jZ s i x.1 n1.2).1.map bH).length) (fun x=>n - x.1) (0,none) rfl ⟨rfl,trivial⟩ (Nat.zero_le _) (fun _ _ h=>h) ?_
   rintro ⟨j,q⟩ hj
   dsimp only at hj ⊢
   have hrl:=rC s i j n1.2
   have hstep:jZ s i (j+1) n1.2=((jZ s i j n1.2).1++[(gP s i (jZ s i j n1.2).2).1],(gP s i (jZ s i j n1.2).2).2):=rfl
   try dsimp only [Is,Ir,Iq,Ik]
   repeat' (first|refine If ?_|refine IF a5 FN ?_)
   refine aq rfl (fun h=>?_) (fun h=>?_)
   ·have hjn:j < n:=by have:=Iy h;omega
    generalize jZ s i j n1.2=Rg at hrl hstep ⊢
    have hrlm:(Rg.1.map bH).length=Rg.1.length:=Iu ..
    repeat' (first|refine If ?_|refine ak ?_|refine IF a5 FN ?_|refine bh a5 fun _=>?_|fail)
    rename_i rb
    refine bP (bo 0 (cs':=[.vec none 3 []]) rfl fun σ vs h=>cr (k:=0) h rfl fun v hv=>cJ 3 hv) ?_
    refine bP (aI (List.perm_middle (l₁:=[_,_])).symm) ?_
    refine aO [2,3,4,7,8,9] (α:=Nat×Option (Nat×Nat)) (fun x=>[(10,aF x.1)]) (fun x=>x.1≤i) (fun x=>[dG b s ⟨aF U,.vec none 9 [],.vec none 2 [],bF,.vec none 2 [],.imm 4 (A.1.map cE),.vec q 1 (Rg.1.map bH),.vec none 1 [],.vec none 1 []⟩ (gP s x.1 Rg.2).2,tB tb,(rb,.box [.vec x.2 3 ((gP s x.1 Rg.2).1.map jV)] 128)]++(tok x.2 125 3 ((gP s x.1 Rg.2).1.map jV).length++tok q 128 1 (Rg.1.map bH).length)) (fun x=>i - x.1) (0,none) rfl ⟨rfl,trivial⟩ (Nat.zero_le _) (fun _ _ h=>h) ?_
    rintro ⟨a,qt⟩ ha
    dsimp only at ha ⊢
    have htl:=wg s a Rg.2
    have hstt:gP s (a+1) Rg.2=(bX (dr s 5) fun z=>ret ((gP s a Rg.2).1++[jQ.getD z.toNat ⟨0,0,0⟩])) (gP s a Rg.2).2:=rfl
    try dsimp only [Is,Ir,Iq,Ik]
    repeat' (first|refine If ?_|refine IF a5 FN ?_)
    refine aq rfl (fun h=>?_) (fun h=>?_)
    ·have hai:a < i:=by have:=Iy h;omega
     generalize gP s a Rg.2=Tn at htl hstt ⊢
     have htlm:(Tn.1.map jV).length=Tn.1.length:=Iu ..
     repeat' (first|refine If ?_|refine ak ?_)
     refine d7 [.cell (rb,0,.vec qt 3 (Tn.1.map jV))] 13 [(0,.v),(1,.k),(2,.v),(3,.v),(4,.v),(5,.v),(6,.v),(7,.v),(8,.v),(9,.f),(10,.v),(11,.v),(12,.v)] none ?_ trivial rfl (by kernel_rfl) (by kernel_rfl) (by kernel_rfl) bT (by kernel_rfl) rfl
     repeat' (first|refine aC ?_|refine b6 a5 ?_|fail)
     refine dx a5 0 rfl rfl rfl (bD 2 rfl rfl bS) (by first | trivial | rfl) ?_
     repeat' (first|refine aC ?_|refine b6 a5 ?_|refine dS a5 ?_|fail)
     refine er (bD 2 rfl rfl bS) ?_
     have hz:=cg s hs Tn.2.a (n:=5) (by omega)
     have hz:0≤(dr s 5 Tn.2).1∧(dr s 5 Tn.2).1 < 5:=hz
     unfold bX at hstt
     generalize dr s 5 Tn.2=z at hz hstt ⊢
     dsimp only [ret] at hstt
     have hzt:(jQ.map jV)[z.1.toNat]?=some (jV (jQ.getD z.1.toNat ⟨0,0,0⟩)):=by
      rw [List.getElem?_map,l6 (l:=jQ) (i:=z.1.toNat) (by simp only [jQ,List.length_cons,List.length_nil];omega) ⟨0,0,0⟩]
      rfl
     generalize jQ.getD z.1.toNat ⟨0,0,0⟩=tn at hzt hstt
     repeat' (first|refine aC ?_|refine b6 a5 ?_|(apply cB;refine cS a5 ?_)|refine dS a5 ?_|fail)
     refine IQ [2,3,4,7,8,9,10,80,91] FN ?_
     repeat' (first|fail)
     refine bJ a5 _ rfl rfl rfl rfl (ev (A:=[_,_,_])) (by simp;omega) (by simp;omega) rfl fun q'=>?_
     refine aJ (aI (ev (A:=[_,_,_])).symm) ?_
     repeat' (first|refine If ?_|refine IF a5 FN ?_|(apply aV;refine aU ?_)|(apply aM;first|refine IH 6 a5 0 IE ?_|refine IH 6 a5 1 IE ?_|refine IH 6 a5 2 IE ?_|refine IG a5 0 ID ?_|refine IG a5 1 ID ?_|refine IG a5 2 ID ?_|refine IG a5 3 ID ?_|fail))
     exact aD (a+1,q') rfl ⟨by rw [Iv];rfl,trivial⟩ (by dsimp only;omega) (by dsimp only;omega) (fun _ _ h=>by dsimp only;rw [hstt];dsimp only;rw [List.map_append];exact h)
    have hai:a=i:=by have:=Ix h;omega
    subst hai
    clear hstt htl
    generalize gP s a Rg.2=Tn at hstep ⊢
    repeat' (first|refine If ?_|fail)
    refine bP (bo 2 (cs':=[.imm 3 (Tn.1.map jV)]) rfl fun σ vs h=>cr (k:=0) h rfl fun v hv=>VR.im hv) ?_
    refine bP (bM (L':=[dG b s ⟨aF U,.vec none 9 [],.vec none 2 [],bF,.vec none 2 [],.imm 4 (A.1.map cE),.vec q 1 (Rg.1.map bH),.vec none 1 [],.vec none 1 []⟩ Tn.2,tB tb,(rb,.box (bH Tn.1) 128)]++tok q 128 1 (Rg.1.map bH).length) (List.Sublist.cons_cons _ (List.Sublist.cons_cons _ (List.Sublist.cons_cons _ (List.sublist_append_right _ _))))) ?_
    refine bz 9 [(0,.v),(1,.v),(2,.v),(3,.v),(4,.v),(5,.l),(6,.l),(7,.v),(8,.e)] none ?_ trivial rfl (by kernel_rfl) (by kernel_rfl) (by kernel_rfl) bT (by kernel_rfl) rfl
    repeat' (first|refine aC ?_|refine b6 a5 ?_|refine bZ a5 0 rfl rfl rfl rfl (by first|trivial|rfl) ?_)
    refine oL a5 2 rfl rfl rfl rfl (by first | trivial | rfl) ?_
    repeat' (first|refine aC ?_|refine dS a5 ?_|fail)
    refine eV a5 _ rfl rfl rfl rfl (List.perm_append_comm (l₁:=[_,_,_])) (by simp;omega) (by simp;omega) (by first | trivial | rfl) fun q'=>?_
    refine IQ [2,3,4,7,8,94,102] FN ?_
    refine aJ (aI (List.perm_append_comm (l₂:=[_,_,_]))) ?_
    repeat' (first|refine If ?_|refine IF a5 FN ?_|(apply aV;refine aU ?_)|(apply aM;first|refine IH 6 a5 0 IE ?_|refine IH 6 a5 1 IE ?_|refine IH 6 a5 2 IE ?_|refine IG a5 0 ID ?_|refine IG a5 1 ID ?_|refine IG a5 2 ID ?_|refine IG a5 3 ID ?_|fail))
    exact aD (j+1,q') rfl ⟨by rw [Iv];rfl,trivial⟩ (by dsimp only;omega) (by dsimp only;omega) (fun _ _ h=>by dsimp only;rw [hstep];dsimp only;rw [List.map_append];exact h.sublist (List.Sublist.cons_cons _ (List.Sublist.cons_cons _ (List.sublist_cons_self ..))))
   have hjn:j=n:=by have:=Ix h;omega
   subst hjn
   generalize jZ s i j n1.2=Rg at K ⊢
   repeat' (first|refine If ?_|fail)
   refine bf (bo 0 rfl fun σ vs h=>cr (k:=8) (c':= .imm 1 (Rg.1.map bH)) h rfl fun v hv=>VR.im hv) ?_
   refine bf (bM (L':=[dG b s ⟨aF U,.vec none 9 [],.vec none 2 [],bF,.vec none 2 [],.imm 4 (A.1.map cE),.imm 1 (Rg.1.map bH),.vec none 1 [],.vec none 1 []⟩ Rg.2,tB tb]) (List.Sublist.cons_cons _ (List.Sublist.cons_cons _ (List.nil_sublist _)))) ?_
   exact K _ rfl
  ·have hi0:i=0:=by have:=Ix h;omega
   have hv:fB s i A.2=([],A.2):=by
    unfold fB
    rw [if_pos hi0]
    rfl
   rw [hv] at K
   repeat' (first|refine If ?_|fail)
   refine bf (bo 0 rfl fun σ vs h=>cr (k:=8) (c':= .imm 1 []) h rfl fun v hv=>VR.im hv) ?_
   exact K _ rfl
 generalize e4:fB s i A.2=rg
 repeat' (first|refine If ?_|refine IF a5 FN ?_)
 refine cu ?_
 have hk2:=cg s hs rg.2.a (n:=3) (by omega)
 have hk2:0≤(dr s 3 rg.2).1∧(dr s 3 rg.2).1 < 3:=hk2
 generalize e5:dr s 3 rg.2=k2 at hk2 ⊢
 obtain ⟨k',hkk2⟩:∃k:Nat,k2.1=k:=⟨k2.1.toNat,by omega⟩
 rw [hkk2]
 repeat' (first|refine If ?_|refine ak ?_|refine IF a5 FN ?_)
 refine aO [2,3,4] (α:=Nat×Option (Nat×Nat)) (fun x=>[(11,aF x.1)]) (fun x=>x.1≤k') (fun x=>[dG b s ⟨aF U,.vec none 9 [],.vec none 2 [],bF,.vec none 2 [],.imm 4 (A.1.map cE),.imm 1 (rg.1.map bH),.vec x.2 1 ((ie s x.1 k2.2).1.map du),.vec none 1 []⟩ (ie s x.1 k2.2).2,tB tb]++tok x.2 74 1 ((ie s x.1 k2.2).1.map du).length) (fun x=>k' - x.1) (0,none) rfl ⟨rfl,trivial⟩ (Nat.zero_le _) (fun _ _ h=>h) ?_
 rintro ⟨j,q2⟩ hj
 dsimp only at hj ⊢
 have hfl:=vq s j k2.2
 have hstep:ie s (j+1) k2.2=(bX (gF 0) fun _=>bX (mp s 6 j 4) fun h=>ret ((ie s j k2.2).1++[h])) (ie s j k2.2).2:=rfl
 try dsimp only [Is,Ir,Iq,Ik]
 repeat' (first|refine If ?_|refine IF a5 FN ?_)
 refine aq rfl (fun h=>?_) (fun h=>?_)
 ·have hjk:j < k':=by have:=Iy h;omega
  generalize ie s j k2.2=Fu at hfl hstep ⊢
  have hflm:(Fu.1.map du).length=Fu.1.length:=Iu ..
  unfold bX at hstep
  repeat' (first|refine If ?_|refine ak ?_|refine IF a5 FN ?_|(apply aM;first|refine IH 6 a5 0 IE ?_|refine IH 6 a5 1 IE ?_|refine IH 6 a5 2 IE ?_|refine IG a5 0 ID ?_|refine IG a5 1 ID ?_|refine IG a5 2 ID ?_|refine IG a5 3 ID ?_|fail))
  refine bP (aI (L':=[dG b s ⟨aF U,.vec none 9 [],.vec none 2 [],bF,.vec none 2 [],.imm 4 (A.1.map cE),.imm 1 (rg.1.map bH),.vec q2 1 (Fu.1.map du),.vec none 1 []⟩ (gF 0 Fu.2).2,tB tb]++tok q2 74 1 (Fu.1.map du).length) (Io _)) ?_
  generalize (gF 0 Fu.2).2=w at hstep ⊢
  dsimp only at hstep
  refine d7 [.cell (b,9,.vec q2 1 (Fu.1.map du))] 11 [(0,.v),(1,.v),(2,.v),(3,.v),(4,.v),(5,.k),(6,.v),(7,.v),(8,.f),(9,.v),(10,.e)] none ?_ trivial rfl (by kernel_rfl) (by kernel_rfl) (by kernel_rfl) bT (by kernel_rfl) rfl
  repeat' (first|refine aC ?_|refine b6 a5 ?_|fail)
  refine dx a5 0 rfl rfl rfl (bD 0 rfl rfl bS) (by first | trivial | rfl) ?_
  repeat' (first|refine aC ?_|refine b6 a5 ?_|fail)
  refine qW (rk s hs _ (n:=6) (fn:=(j:Int)) (most:=4) (by omega) (by omega) (by omega)) (bD 0 rfl rfl bS) ?_
  generalize mp s 6 j 4 w=hi at hstep ⊢
  try dsimp only [ret] at hstep
  unfold j4
  repeat' (first|refine aC ?_|refine dS a5 ?_|fail)
  refine eV a5 _ rfl rfl rfl rfl (List.perm_append_comm (l₁:=[_,_])) (by simp;omega) (by simp;omega) (by first | trivial | rfl) fun q'=>?_
  refine IQ [2,3,4,11,116,126] FN ?_
  refine aJ (aI (List.perm_append_comm (l₂:=[_,_]))) ?_
  repeat' (first|refine If ?_|refine IF a5 FN ?_|(apply aV;refine aU ?_)|(apply aM;first|refine IH 6 a5 0 IE ?_|refine IH 6 a5 1 IE ?_|refine IH 6 a5 2 IE ?_|refine IG a5 0 ID ?_|refine IG a5 1 ID ?_|refine IG a5 2 ID ?_|refine IG a5 3 ID ?_|fail))
  exact aD (j+1,q') rfl ⟨by rw [Iv];rfl,trivial⟩ (by dsimp only;omega) (by dsimp only;omega) (fun _ _ h=>by dsimp only;rw [hstep];dsimp only;rw [List.map_append];exact h)
 have hjk:j=k':=by have:=Ix h;omega
 subst hjk
 clear hstep
 generalize e6:ie s j k2.2=fu at hfl ⊢
 repeat' (first|refine If ?_|refine IF a5 FN ?_)
 refine aJ (bo 0 rfl fun σ vs h=>cr (k:=9) (c':= .imm 1 (fu.1.map du)) h rfl fun v hv=>VR.im hv) ?_
 refine aJ (bM (L':=[dG b s ⟨aF U,.vec none 9 [],.vec none 2 [],bF,.vec none 2 [],.imm 4 (A.1.map cE),.imm 1 (rg.1.map bH),.imm 1 (fu.1.map du),.vec none 1 []⟩ fu.2,tB tb]) (List.Sublist.cons_cons _ (List.Sublist.cons_cons _ (List.nil_sublist _)))) ?_
 refine cu ?_
 have hk3:=cg s hs fu.2.a (n:=4) (by omega)
 have hk3:0≤(dr s 4 fu.2).1∧(dr s 4 fu.2).1 < 4:=hk3
 generalize e7:dr s 4 fu.2=k3 at hk3 ⊢
 obtain ⟨k'',hkk3⟩:∃k:Nat,k3.1=k:=⟨k3.1.toNat,by omega⟩
 rw [hkk3]
 repeat' (first|refine If ?_|refine ak ?_|refine IF a5 FN ?_)
 refine aO [2,3,4] (α:=Nat×Option (Nat×Nat)) (fun x=>[(12,aF x.1)]) (fun x=>x.1≤k'') (fun x=>[dG b s ⟨aF U,.vec none 9 [],.vec none 2 [],bF,.vec none 2 [],.imm 4 (A.1.map cE),.imm 1 (rg.1.map bH),.imm 1 (fu.1.map du),.vec x.2 1 (aT (pp s x.1 k3.2).1)⟩ (pp s x.1 k3.2).2,tB tb]++tok x.2 3 1 (aT (pp s x.1 k3.2).1).length) (fun x=>k'' - x.1) (0,none) rfl ⟨rfl,trivial⟩ (Nat.zero_le _) (fun _ _ h=>h) ?_
 rintro ⟨jc,q3⟩ hjc
 dsimp only at hjc ⊢
 have hcl:=A3 s jc k3.2
 have hstep:pp s (jc+1) k3.2=(bX (dr s 500) fun z=>ret ((pp s jc k3.2).1++[z - 100])) (pp s jc k3.2).2:=rfl
 try dsimp only [Is,Ir,Iq,Ik]
 repeat' (first|refine If ?_|refine IF a5 FN ?_)
 refine aq rfl (fun h=>?_) (fun h=>?_)
 ·have hjk:jc < k'':=by have:=Iy h;omega
  generalize pp s jc k3.2=C at hcl hstep ⊢
  have hclm:(aT C.1).length=C.1.length:=aZ _
  unfold bX at hstep
  repeat' (first|refine If ?_|refine ak ?_)
  refine d7 [.cell (b,10,.vec q3 1 (aT C.1))] 11 [(0,.v),(1,.v),(2,.v),(3,.v),(4,.v),(5,.k),(6,.v),(7,.f),(8,.v),(9,.v),(10,.e)] none ?_ trivial rfl (by kernel_rfl) (by kernel_rfl) (by kernel_rfl) bT (by kernel_rfl) rfl
  repeat' (first|refine aC ?_|refine b6 a5 ?_|fail)
  refine dx a5 0 rfl rfl rfl (bD 0 rfl rfl bS) (by first | trivial | rfl) ?_
  repeat' (first|refine aC ?_|refine b6 a5 ?_|fail)
  refine er (bD 0 rfl rfl bS) ?_
  have hz:=cg s hs C.2.a (n:=500) (by omega)
  have hz:0≤(dr s 500 C.2).1∧(dr s 500 C.2).1 < 500:=hz
  generalize dr s 500 C.2=z at hz hstep ⊢
  try dsimp only [ret] at hstep
  repeat' (first|refine aC ?_|(apply dW;refine fz ?_)|refine dS a5 ?_|fail)
  refine eV a5 _ rfl rfl rfl rfl (List.perm_append_comm (l₁:=[_,_])) (by simp [aZ];omega) (by simp [aZ];omega) (by first | trivial | rfl) fun q'=>?_
  refine IQ [2,3,4,12,137,147] FN ?_
  refine aJ (aI (List.perm_append_comm (l₂:=[_,_]))) ?_
  repeat' (first|refine If ?_|refine IF a5 FN ?_|(apply aV;refine aU ?_)|(apply aM;first|refine IH 6 a5 0 IE ?_|refine IH 6 a5 1 IE ?_|refine IH 6 a5 2 IE ?_|refine IG a5 0 ID ?_|refine IG a5 1 ID ?_|refine IG a5 2 ID ?_|refine IG a5 3 ID ?_|fail))
  exact aD (jc+1,q') rfl ⟨by rw [Iv];rfl,trivial⟩ (by dsimp only;omega) (by dsimp only;omega) (fun _ _ h=>by dsimp only;rw [hstep];dsimp only;rw [show aT (C.1++[z.1 - 100])=aT C.1++[[aF (z.1 - 100)]] from List.map_append ..];exact h)
 have hjk:jc=k'':=by have:=Ix h;omega
 subst hjk
 clear hstep
 generalize e8:pp s jc k3.2=cv at hcl ⊢
 repeat' (first|refine If ?_|refine IF a5 FN ?_)
 refine aJ (bo 0 rfl fun σ vs h=>cr (k:=10) (c':= .imm 1 (aT cv.1)) h rfl fun v hv=>VR.im hv) ?_
 refine aJ (bM (L':=[dG b s ⟨aF U,.vec none 9 [],.vec none 2 [],bF,.vec none 2 [],.imm 4 (A.1.map cE),.imm 1 (rg.1.map bH),.imm 1 (fu.1.map du),.imm 1 (aT cv.1)⟩ cv.2,tB tb]) (List.Sublist.cons_cons _ (List.Sublist.cons_cons _ (List.nil_sublist _)))) ?_
 refine cu ?_
 have hk4:=cg s hs cv.2.a (n:=9) (by omega)
 have hk4:0≤(dr s 9 cv.2).1∧(dr s 9 cv.2).1 < 9:=hk4
 generalize e9:dr s 9 cv.2=k4 at hk4 ⊢
 obtain ⟨n,hkk4⟩:∃k:Nat,2+k4.1=k:=⟨(2+k4.1).toNat,by omega⟩
 repeat' (first|refine If ?_|refine ak ?_|refine IF a5 FN ?_|(apply aV;refine aU ?_)|fail)
 rw [hkk4]
 have hrgl:(rg.1.map bH).length=rg.1.length:=Iu ..
 have hful:(fu.1.map du).length=fu.1.length:=Iu ..
 have hrg3:rg.1.length≤1000:=by
  have hR:bK (fB s A.1.length) fun l=>l.length≤3:=bK.ite (fun _=>bK.ret (Nat.zero_le _)) fun _=>(cH s (by omega)).bnd fun n hn m=>by rw [rC];omega
  have:=hR A.2
  rw [hal] at this
  rw [←e4]
  omega
 refine aO [2,3,4] (α:=Nat×Option (Nat×Nat)) (fun x=>[(13,aF x.1)]) (fun x=>x.1≤n) (fun x=>[dG b s ⟨aF U,.vec x.2 9 ((g8 s rg.1.length fu.1.length x.1 k4.2).1.map bL),.vec none 2 [],bF,.vec none 2 [],.imm 4 (A.1.map cE),.imm 1 (rg.1.map bH),.imm 1 (fu.1.map du),.imm 1 (aT cv.1)⟩ (g8 s rg.1.length fu.1.length x.1 k4.2).2,tB tb]++tok x.2 76 9 ((g8 s rg.1.length fu.1.length x.1 k4.2).1.map bL).length) (fun x=>n - x.1) (0,none) rfl ⟨rfl,trivial⟩ (Nat.zero_le _) (fun _ _ h=>h) ?_
 rintro ⟨jg,q4⟩ hjg
 dsimp only at hjg ⊢
 have hgl:=tP s rg.1.length fu.1.length jg k4.2
 have hstep:g8 s rg.1.length fu.1.length (jg+1) k4.2=(bX (jH s rg.1.length fu.1.length jg) fun g=>ret ((g8 s rg.1.length fu.1.length jg k4.2).1++[g])) (g8 s rg.1.length fu.1.length jg k4.2).2:=rfl
 try dsimp only [Is,Ir,Iq,Ik]
 repeat' (first|refine If ?_|refine IF a5 FN ?_)
 refine aq rfl (fun h=>?_) (fun h=>?_)
 ·have hjn:jg < n:=by have:=Iy h;omega
  generalize g8 s rg.1.length fu.1.length jg k4.2=Gs at hgl hstep ⊢
  have hglm:(Gs.1.map bL).length=Gs.1.length:=Iu ..
  unfold bX at hstep
  repeat' (first|refine If ?_|refine ak ?_|refine IF a5 FN ?_)
  refine b9 ([dG b s ⟨aF U,.vec q4 9 (Gs.1.map bL),.vec none 2 [],bF,.vec none 2 [],.imm 4 (A.1.map cE),.imm 1 (rg.1.map bH),.imm 1 (fu.1.map du),.imm 1 (aT cv.1)⟩ Gs.2]++(tok q4 76 9 (Gs.1.map bL).length++[])) [tB tb] (AF s hs ⟨aF U,.vec q4 9 (Gs.1.map bL),.vec none 2 [],bF,.vec none 2 [],.imm 4 (A.1.map cE),.imm 1 (rg.1.map bH),.imm 1 (fu.1.map du),.imm 1 (aT cv.1)⟩ rfl rfl rfl rg.1.length fu.1.length jg hrgl hful (by omega) (by omega) (by omega) (by omega) b Gs.2) rfl rfl BB rfl fun c L1 ⟨q',hL1⟩=>?_
  subst hL1
  refine aJ (aI BB.symm) ?_
  generalize jH s rg.1.length fu.1.length jg Gs.2=g at hstep ⊢
  try dsimp only [ret] at hstep
  repeat' (first|refine If ?_|refine IF a5 FN ?_|(apply aV;refine aU ?_)|fail)
  exact aD (jg+1,q') rfl ⟨by rw [Iv];rfl,trivial⟩ (by dsimp only;omega) (by dsimp only;omega) (fun _ _ h=>by dsimp only;rw [hstep];dsimp only;rw [List.map_append];exact h)
 have hjn:jg=n:=by have:=Ix h;omega
 subst hjn
 clear hstep
 generalize e10:g8 s rg.1.length fu.1.length jg k4.2=gl at hgl ⊢
 have hglm:(gl.1.map bL).length=gl.1.length:=Iu ..
 repeat' (first|refine If ?_|fail)
 refine bn (hc:=⟨yN⟩) ?_
 refine aJ (bM (L':=[dG b s ⟨aF U,.vec q4 9 (gl.1.map bL),.vec none 2 [],bF,.vec none 2 [],.imm 4 (A.1.map cE),.imm 1 (rg.1.map bH),.imm 1 (fu.1.map du),.imm 1 (aT cv.1)⟩ gl.2,tB tb]) (List.Sublist.cons_cons _ (List.Sublist.cons_cons _ (List.nil_sublist _)))) ?_
 repeat' (first|refine If ?_|refine ak ?_|refine IF a5 FN ?_)
 have hr16:(aT fJ).length=16:=rfl
 refine aO [2,3,14] (α:=Nat×Option (Nat×Nat)) (fun x=>[(15,aF x.1)]) (fun x=>x.1≤16) (fun x=>[dG b s ⟨aF U,.vec q4 9 (gl.1.map bL),.vec x.2 2 ((gL s gl.1.length x.1 gl.2).1.map dQ),bF,.vec none 2 [],.imm 4 (A.1.map cE),.imm 1 (rg.1.map bH),.imm 1 (fu.1.map du),.imm 1 (aT cv.1)⟩ (gL s gl.1.length x.1 gl.2).2,tB tb]++tok x.2 119 2 ((gL s gl.1.length x.1 gl.2).1.map dQ).length) (fun x=>16 - x.1) (0,none) rfl ⟨rfl,trivial⟩ (Nat.zero_le _) (fun _ _ h=>h) ?_
 rintro ⟨jr,q5⟩ hjr
 dsimp only at hjr ⊢
 have hcl2:=vb s gl.1.length jr gl.2
 have hstep:gL s gl.1.length (jr+1) gl.2=(bX (dr s 4) fun z=>if 0 < z then bX (dr s gl.1.length) fun g=>ret ((gL s gl.1.length jr gl.2).1++[(⟨fJ.getD jr 0,g⟩:fV)]) else ret (gL s gl.1.length jr gl.2).1) (gL s gl.1.length jr gl.2).2:=rfl
 try dsimp only [Is,Ir,Iq,Ik]
 repeat' (first|refine If ?_|refine IF a5 FN ?_)
 refine aq rfl (fun h=>?_) (fun h=>?_)
 ·have hj16:jr < 16:=by have:=Iy h;rw [hr16] at this;omega
  have hrn:(aT fJ)[jr]?=some [aF (fJ.getD jr 0)]:=bR (l6 hj16 0)
  generalize fJ.getD jr 0=rn at hrn hstep
  generalize gL s gl.1.length jr gl.2=Ch at hcl2 hstep ⊢
  have hchm:(Ch.1.map dQ).length=Ch.1.length:=Iu ..
  unfold bX at hstep
  repeat' (first|refine If ?_|refine ak ?_|refine IF a5 FN ?_)
  refine cu ?_
  generalize dr s 4 Ch.2=z at hstep ⊢
  dsimp only at hstep
  repeat' (first|refine If ?_|refine IF a5 FN ?_)
  refine aq rfl (fun hz=>?_) (fun hz=>?_)
  ·rw [if_pos (Iy hz)] at hstep
   repeat' (first|fail)
   refine d7 [.cell (b,4,.vec q5 2 (Ch.1.map dQ))] 21 [(0,.v),(1,.v),(2,.v),(3,.v),(4,.v),(5,.k),(6,.v),(7,.v),(8,.v),(9,.v),(10,.v),(11,.v),(12,.v),(13,.v),(14,.v),(15,.l),(16,.v),(17,.f),(18,.v),(19,.v),(20,.e)] none ?_ trivial rfl (by kernel_rfl) (by kernel_rfl) (by kernel_rfl) bT (by kernel_rfl) rfl
   repeat' (first|refine aC ?_|refine b6 a5 ?_|fail)
   refine dx a5 0 rfl rfl rfl (bD 0 rfl rfl bS) (by first | trivial | rfl) ?_
   repeat' (first|refine aC ?_|refine b6 a5 ?_|(apply cB;refine cS a5 ?_)|refine bZ a5 0 rfl rfl rfl rfl (by first|trivial|rfl) ?_)
   rw [hglm]
   refine er (bD 0 rfl rfl bS) ?_
   generalize dr s gl.1.length z.2=g at hstep ⊢
   try dsimp only [ret] at hstep
   repeat' (first|refine aC ?_|refine b6 a5 ?_|refine dS a5 ?_|fail)
   refine eV a5 _ rfl rfl rfl rfl (List.perm_append_comm (l₁:=[_,_])) (by simp;omega) (by simp;omega) (by first | trivial | rfl) fun q'=>?_
   refine IQ [2,3,14,15,172,192] FN ?_
   refine aJ (aI (List.perm_append_comm (l₂:=[_,_]))) ?_
   repeat' (first|refine If ?_|refine IF a5 FN ?_|(apply aV;refine aU ?_)|(apply aM;first|refine IH 6 a5 0 IE ?_|refine IH 6 a5 1 IE ?_|refine IH 6 a5 2 IE ?_|refine IG a5 0 ID ?_|refine IG a5 1 ID ?_|refine IG a5 2 ID ?_|refine IG a5 3 ID ?_|fail))
   exact aD (jr+1,q') rfl ⟨by rw [Iv];rfl,trivial⟩ (by dsimp only;omega) (by dsimp only;omega) (fun _ _ h=>by dsimp only;rw [hstep];dsimp only;rw [List.map_append];exact h)
  ·rw [if_neg (Ix hz)] at hstep
   try dsimp only [ret] at hstep
   repeat' (first|refine If ?_|refine IF a5 FN ?_|(apply aV;refine aU ?_)|fail)
   exact aD (jr+1,q5) rfl ⟨by rw [Iv];rfl,trivial⟩ (by dsimp only;omega) (by dsimp only;omega) (fun _ _ h=>by dsimp only;rw [hstep];exact h)
 have hj16:jr=16:=by have:=Ix h;rw [hr16] at this;omega
 subst hj16
 clear hstep
 generalize e11:gL s gl.1.length 16 gl.2=ch at hcl2 ⊢
 repeat' (first|refine If ?_|refine IF a5 FN ?_)
 refine aJ (bo 0 rfl fun σ vs h=>cr (k:=4) (c':= .imm 2 (ch.1.map dQ)) h rfl fun v hv=>VR.im hv) ?_
 refine aJ (bM (L':=[dG b s ⟨aF U,.vec q4 9 (gl.1.map bL),.imm 2 (ch.1.map dQ),bF,.vec none 2 [],.imm 4 (A.1.map cE),.imm 1 (rg.1.map bH),.imm 1 (fu.1.map du),.imm 1 (aT cv.1)⟩ ch.2]++[tB tb]) (List.Sublist.cons_cons _ (List.Sublist.cons_cons _ (List.nil_sublist _)))) ?_
 refine b9 [dG b s ⟨aF U,.vec q4 9 (gl.1.map bL),.imm 2 (ch.1.map dQ),bF,.vec none 2 [],.imm 4 (A.1.map cE),.imm 1 (rg.1.map bH),.imm 1 (fu.1.map du),.imm 1 (aT cv.1)⟩ ch.2] [tB tb] (vK s hs ⟨aF U,.vec q4 9 (gl.1.map bL),.imm 2 (ch.1.map dQ),bF,.vec none 2 [],.imm 4 (A.1.map cE),.imm 1 (rg.1.map bH),.imm 1 (fu.1.map du),.imm 1 (aT cv.1)⟩ rfl rfl gl.1.length hglm (by omega) b ch.2) rfl rfl (Io _) rfl fun c L1 hL1=>?_
 subst hL1
 have hlk6:=(o8 s (n:=gl.1.length) (by omega) ch.2).len
 generalize e12:il s gl.1.length ch.2=lk at hlk6 ⊢
 have hlkm:(lk.1.map bC).length=lk.1.length:=Iu ..
 repeat' (first|refine If ?_|fail)
 refine bn (hc:=⟨u6⟩) ?_
 refine aJ (aI (L':=[dG b s ⟨aF U,.vec q4 9 (gl.1.map bL),.imm 2 (ch.1.map dQ),.imm 3 (lk.1.map bC),.vec none 2 [],.imm 4 (A.1.map cE),.imm 1 (rg.1.map bH),.imm 1 (fu.1.map du),.imm 1 (aT cv.1)⟩ lk.2,tB tb]) (Io _)) ?_
 repeat' (first|refine If ?_|refine ak ?_|refine IF a5 FN ?_)
 have hn8:(BZ fI).length=8:=rfl
 refine aO [2,3,16] (α:=Nat×Option (Nat×Nat)) (fun x=>[(17,aF x.1)]) (fun x=>x.1≤8) (fun x=>[dG b s ⟨aF U,.vec q4 9 (gl.1.map bL),.imm 2 (ch.1.map dQ),.imm 3 (lk.1.map bC),.vec x.2 2 ((gN s lk.1.length x.1 lk.2).1.map ce),.imm 4 (A.1.map cE),.imm 1 (rg.1.map bH),.imm 1 (fu.1.map du),.imm 1 (aT cv.1)⟩ (gN s lk.1.length x.1 lk.2).2,tB tb]++tok x.2 121 2 ((gN s lk.1.length x.1 lk.2).1.map ce).length) (fun x=>8 - x.1) (0,none) rfl ⟨rfl,trivial⟩ (Nat.zero_le _) (fun _ _ h=>h) ?_
 rintro ⟨jf,q6⟩ hjf
 dsimp only at hjf ⊢
 have hftl:=vk s lk.1.length jf lk.2
 have hstep:gN s lk.1.length (jf+1) lk.2=(bX (n8 s lk.1.length) fun r=>bX (dr s 2) fun z=>ret (if z=0 then (gN s lk.1.length jf lk.2).1++[(⟨fI.getD jf ByteArray.empty,r⟩:bV)] else (gN s lk.1.length jf lk.2).1)) (gN s lk.1.length jf lk.2).2:=rfl
 try dsimp only [Is,Ir,Iq,Ik]
 repeat' (first|refine If ?_|refine IF a5 FN ?_)
 refine aq rfl (fun h=>?_) (fun h=>?_)
 ·have hj8:jf < 8:=by have:=Iy h;rw [hn8] at this;omega
  have hnm:(BZ fI)[jf]?=some [uL (fI.getD jf ByteArray.empty)]:=C0 (l6 hj8 ByteArray.empty)
  generalize fI.getD jf ByteArray.empty=nm at hnm hstep
  generalize gN s lk.1.length jf lk.2=Ft at hftl hstep ⊢
  have hftm:(Ft.1.map ce).length=Ft.1.length:=Iu ..
  unfold bX at hstep
  repeat' (first|refine If ?_|refine ak ?_|refine IF a5 FN ?_)
  refine bP (bO (t:=18) (c':= .vec none 1 []) rfl fun σ v h=>cJ 1 h) ?_
  refine aO [2,3,16,17] (α:=Nat×Option (Nat×Nat)) (fun x=>[(19,aF x.1),(18,.vec x.2 1 (aT (n8 s x.1 Ft.2).1))]) (fun x=>x.1≤lk.1.length) (fun x=>[dG b s ⟨aF U,.vec q4 9 (gl.1.map bL),.imm 2 (ch.1.map dQ),.imm 3 (lk.1.map bC),.vec q6 2 (Ft.1.map ce),.imm 4 (A.1.map cE),.imm 1 (rg.1.map bH),.imm 1 (fu.1.map du),.imm 1 (aT cv.1)⟩ (n8 s x.1 Ft.2).2,tB tb]++(tok x.2 3 1 (aT (n8 s x.1 Ft.2).1).length++tok q6 121 2 (Ft.1.map ce).length)) (fun x=>lk.1.length - x.1) (0,none) rfl ⟨rfl,rfl,trivial⟩ (Nat.zero_le _) (fun _ _ h=>h) ?_
  rintro ⟨a,q7⟩ ha
  dsimp only at ha ⊢
  have hal7:=zE s a Ft.2
  have hst7:n8 s (a+1) Ft.2=(bX (dr s 3) fun z=>ret (if z=0 then (n8 s a Ft.2).1++[(a:Int)] else (n8 s a Ft.2).1)) (n8 s a Ft.2).2:=rfl
  try dsimp only [Is,Ir,Iq,Ik]
  repeat' (first|refine If ?_|refine IF a5 FN ?_|(apply bw;first|refine II a5 0 IC ?_|refine II a5 1 IC ?_|refine II a5 2 IC ?_|refine II a5 3 IC ?_|refine IJ a5 0 IC ?_|refine IJ a5 1 IC ?_|refine IJ a5 2 IC ?_|refine IK a5 1 IA (by assumption) rfl ?_|refine IK a5 0 IA (by assumption) rfl ?_|fail)|fail)
  refine aq rfl (fun h=>?_) (fun h=>?_)
  ·have hal:a < lk.1.length:=by have:=Iy h;rw [hlkm] at this;omega
   generalize n8 s a Ft.2=As at hal7 hst7 ⊢
   have hasm:(aT As.1).length=As.1.length:=aZ _
   unfold bX at hst7
   repeat' (first|refine If ?_|refine ak ?_|refine IF a5 FN ?_)
   refine cu ?_
   generalize dr s 3 As.2=z at hst7 ⊢
   dsimp only [ret] at hst7
   repeat' (first|refine If ?_|refine IF a5 FN ?_)
   refine aq rfl (fun hz=>?_) (fun hz=>?_)
   ·rw [if_pos (Iy hz)] at hst7
    repeat' (first|refine If ?_|refine IF a5 FN ?_|refine bG a5 ?_|fail)
    refine bJ a5 _ rfl rfl rfl rfl (ev (A:=[_,_])) (by simp [aZ];omega) (by simp [aZ];omega) rfl fun q'=>?_
    refine aJ (aI (ev (A:=[_,_])).symm) ?_
    repeat' (first|refine If ?_|refine IF a5 FN ?_|(apply aV;refine aU ?_)|fail)
    exact aD (a+1,q') rfl ⟨by rw [Iv];rfl,by rw [hst7];dsimp only;rw [show aT (As.1++[(a:Int)])=aT As.1++[[aF (a:Int)]] from List.map_append ..];rfl,trivial⟩ (by dsimp only;omega) (by dsimp only;omega) (fun _ _ h=>by dsimp only;rw [hst7];dsimp only;rw [show aT (As.1++[(a:Int)])=aT As.1++[[aF (a:Int)]] from List.map_append ..];exact h)
   ·rw [if_neg (Ix hz)] at hst7
    repeat' (first|refine If ?_|refine IF a5 FN ?_|(apply aV;refine aU ?_)|fail)
    exact aD (a+1,q7) rfl ⟨by rw [Iv];rfl,by rw [hst7];rfl,trivial⟩ (by dsimp only;omega) (by dsimp only;omega) (fun _ _ h=>by dsimp only;rw [hst7];exact h)
  have hal:a=lk.1.length:=by have:=Ix h;rw [hlkm] at this;omega
  subst hal
  clear hst7
  generalize n8 s lk.1.length Ft.2=As at hal7 hstep ⊢
  dsimp only at hstep
  repeat' (first|refine If ?_|refine IF a5 FN ?_)
  refine aJ (bO (t:=18) (c':= .imm 1 (aT As.1)) rfl fun σ v h=>VR.im h) ?_
  refine aJ (bM (L':=[dG b s ⟨aF U,.vec q4 9 (gl.1.map bL),.imm 2 (ch.1.map dQ),.imm 3 (lk.1.map bC),.vec q6 2 (Ft.1.map ce),.imm 4 (A.1.map cE),.imm 1 (rg.1.map bH),.imm 1 (fu.1.map du),.imm 1 (aT cv.1)⟩ As.2,tB tb]++tok q6 121 2 (Ft.1.map ce).length) (List.Sublist.cons_cons _ (List.Sublist.cons_cons _ (List.sublist_append_right _ _)))) ?_
  refine cu ?_
  generalize dr s 2 As.2=z at hstep ⊢
  dsimp only [ret] at hstep
  repeat' (first|refine If ?_|refine IF a5 FN ?_)
  refine aq rfl (fun hz=>?_) (fun hz=>?_)
  ·rw [if_pos (Iy hz)] at hstep
   repeat' (first|fail)
   refine bz 14 [(0,.v),(1,.v),(2,.v),(3,.v),(4,.v),(5,.l),(6,.v),(7,.v),(8,.v),(9,.v),(10,.v),(11,.v),(12,.v),(13,.e)] none ?_ trivial rfl (by kernel_rfl) (by kernel_rfl) (by kernel_rfl) bT (by kernel_rfl) rfl
   repeat' (first|refine aC ?_|refine b6 a5 ?_|(apply cB;refine cS a5 ?_)|refine dS a5 ?_|refine bZ a5 0 rfl rfl rfl rfl (by first|trivial|rfl) ?_)
   refine eV a5 _ rfl rfl rfl rfl (List.perm_append_comm (l₁:=[_,_])) (by simp;omega) (by simp;omega) (by first | trivial | rfl) fun q'=>?_
   refine IQ [2,3,16,17,225,238] FN ?_
   refine aJ (aI (List.perm_append_comm (l₂:=[_,_]))) ?_
   repeat' (first|refine If ?_|refine IF a5 FN ?_|(apply aV;refine aU ?_)|(apply aM;first|refine IH 6 a5 0 IE ?_|refine IH 6 a5 1 IE ?_|refine IH 6 a5 2 IE ?_|refine IG a5 0 ID ?_|refine IG a5 1 ID ?_|refine IG a5 2 ID ?_|refine IG a5 3 ID ?_|fail))
   exact aD (jf+1,q') rfl ⟨by rw [Iv];rfl,trivial⟩ (by dsimp only;omega) (by dsimp only;omega) (fun _ _ h=>by dsimp only;rw [hstep];dsimp only;rw [List.map_append];exact h)
  ·rw [if_neg (Ix hz)] at hstep
   repeat' (first|refine If ?_|refine IF a5 FN ?_|(apply aV;refine aU ?_)|fail)
   exact aD (jf+1,q6) rfl ⟨by rw [Iv];rfl,trivial⟩ (by dsimp only;omega) (by dsimp only;omega) (fun _ _ h=>by dsimp only;rw [hstep];exact h)
 have hj8:jf=8:=by have:=Ix h;rw [hn8] at this;omega
 subst hj8
 clear hstep
 generalize e13:gN s lk.1.length 8 lk.2=ft at hftl ⊢
 repeat' (first|refine If ?_|refine IF a5 FN ?_|(apply bw;first|refine II a5 0 IC ?_|refine II a5 1 IC ?_|refine II a5 2 IC ?_|refine II a5 3 IC ?_|refine IJ a5 0 IC ?_|refine IJ a5 1 IC ?_|refine IJ a5 2 IC ?_|refine IK a5 1 IA (by assumption) rfl ?_|refine IK a5 0 IA (by assumption) rfl ?_|fail)|(apply aM;first|refine IH 6 a5 0 IE ?_|refine IH 6 a5 1 IE ?_|refine IH 6 a5 2 IE ?_|refine IG a5 0 ID ?_|refine IG a5 1 ID ?_|refine IG a5 2 ID ?_|refine IG a5 3 ID ?_|fail))
 have hv:jY s=⟨U,gl.1,ch.1,lk.1,ft.1,A.1,rg.1,fu.1,cv.1⟩:=by
  unfold jY B7 bX
  rw [e1]
  try dsimp only
  rw [e2]
  try dsimp only
  rw [hkk,Int.toNat_natCast,e3]
  try dsimp only
  rw [e4,e5]
  try dsimp only
  rw [hkk2,Int.toNat_natCast,e6]
  try dsimp only
  rw [e7]
  try dsimp only
  rw [hkk3,Int.toNat_natCast,e8]
  try dsimp only
  rw [e9]
  try dsimp only
  rw [hkk4,Int.toNat_natCast,e10]
  try dsimp only
  rw [e11]
  try dsimp only
  rw [e12]
  try dsimp only
  rw [e13,hU]
  rfl
 rw [hv]
 exact bf (bo 1 (cs':=cx ⟨U,gl.1,ch.1,lk.1,ft.1,A.1,rg.1,fu.1,cv.1⟩) rfl fun σ vs h=>lX.vrs (a:=[aF U,.vec q4 9 (gl.1.map bL),.imm 2 (ch.1.map dQ),.imm 3 (lk.1.map bC),.vec q6 2 (ft.1.map ce),.imm 4 (A.1.map cE),.imm 1 (rg.1.map bH),.imm 1 (fu.1.map du),.imm 1 (aT cv.1)]) (b:=cx ⟨U,gl.1,ch.1,lk.1,ft.1,A.1,rg.1,fu.1,cv.1⟩) ⟨cP.refl _,cP.im,cP.refl _,cP.refl _,cP.im,cP.refl _,cP.refl _,cP.refl _,cP.refl _,trivial⟩ h) (iD a5 1 [] rfl rfl rfl rfl rfl (List.nil_sublist _) rfl)
end Go.Proofs.YtpmdfoaadejmkaaGreatDoor
