/-
  The maker: fonts.
-/
import Derived.Test.YtamjlkdanllgjaaGreatDoorM22
namespace Go.Proofs.YtamjlkdanllgjaaGreatDoor
open Go.RowKit
attribute [local irreducible] AT bB AX AO Av Kt ba dt DA cz
set_option maxRecDepth 8000
variable (s:List Int) (hs:s.length≤1000000)
theorem De {a c:Nat×AB} {T:AL}:([a,c]++T).Perm (([a]++(T++[]))++[c]):=by
 rw [List.append_nil]
 exact List.Perm.cons a (List.perm_append_comm (l₁:=[c]))
theorem Ja {A T:AL} {c:Nat×AB}:((A++T)++[c]).Perm ((A++[c])++T):=by
 rw [List.append_assoc,List.append_assoc]
 exact List.Perm.append_left _ List.perm_append_comm
theorem AI:bH Tryz.prog 34 [] (.imm 1 (aO eP)):=by
 refine aP Tryz.func34 rfl Tryz.ntmps34 rfl fun B=>?_
 repeat' (first|refine ae ?_|refine a6 ?_|refine aq ?_|refine a8 ?_|refine aa ?_|refine LF a7 I9 ?_|refine bS a7 ?_|fail)
 exact LK LA
theorem vn:bH Tryz.prog 26 [] (.imm 1 (rq fG)):=by
 refine aP Tryz.func26 rfl Tryz.ntmps26 rfl fun B=>?_
 repeat' (first|refine ae ?_|refine a6 ?_|refine aq ?_|refine a8 ?_|refine aa ?_|refine LF a7 I9 ?_|refine bS a7 ?_|fail)
 exact LK LA
theorem s3 (k:Nat) (m:MS):(kF s k m).1.length=k:=by
 exact (bU.runs (fun i (l:List ey)=>l.length=i) k rfl fun i l _ h=>(bU.any _).bnd fun a _=>(bU.any _).bnd fun b _=>bU.ret (by simp [h])) m
theorem xw (k:Nat) (m:MS):(hZ s k m).1.length=k:=by
 exact (bU.runs (fun i (l:List f5)=>l.length=i) k rfl fun i l _ h=>(bU.any _).bnd fun a _=>bU.ret (by simp [h])) m
theorem sO (x k:Nat) (m:MS):(kr s x k m).1.length=k:=by
 exact (bU.runs (fun i (l:List (List f5))=>l.length=i) k rfl fun i l _ h=>(bU.any _).bnd fun a _=>bU.ret (by simp [h])) m
theorem wJ (k:Nat) (m:MS):(iC s k m).1.length=k:=by
 exact (bU.runs (fun i (l:List (List eG))=>l.length=i) k rfl fun i l _ h=>(bU.any _).bnd fun a _=>(bU.any _).bnd fun b _=>bU.ret (by simp [h])) m
theorem C2 (k:Nat) (m:MS):(qi s k m).1.length=k:=by
 exact (bU.runs (fun i (l:List Int)=>l.length=i) k rfl fun i l _ h=>(bU.any _).bnd fun a _=>bU.ret (by simp [h])) m
theorem uU (R fn k:Nat) (m:MS):(gg s R fn k m).1.length=k:=by
 exact (bU.runs (fun i (l:List bf)=>l.length=i) k rfl fun i l _ h=>(bU.any _).bnd fun a _=>bU.ret (by simp [h])) m
theorem ww (n:Int) (k:Nat) (m:MS):(gZ s n k m).1.length≤k:=by
 exact (bU.runs (fun i (l:List cR)=>l.length≤i) k (Nat.le_refl _) fun i l _ h=>(bU.any _).bnd fun a _=>bU.ite (fun _=>(bU.any _).bnd fun b _=>bU.ret (by simp;omega)) fun _=>bU.ret (by omega)) m
theorem BI (k:Nat) (m:MS):(nA s k m).1.length≤k:=by
 exact (bU.runs (fun i (l:List Int)=>l.length≤i) k (Nat.le_refl _) fun i l _ h=>(bU.any _).bnd fun a _=>bU.ret (by
  split
  ·simp;omega
  ·omega)) m
theorem wG (n k:Nat) (m:MS):(hY s n k m).1.length≤k:=by
 exact (bU.runs (fun i (l:List bN)=>l.length≤i) k (Nat.le_refl _) fun i l _ h=>(bU.any _).bnd fun a _=>(bU.any _).bnd fun b _=>bU.ret (by
  split
  ·simp;omega
  ·omega)) m
abbrev tB (tb:Nat):Nat×AB:=(tb,.box [aH 0,bQ,bQ,bQ,bQ,bQ,bQ,bQ,bQ] 36)
include hs
set_option maxHeartbeats 32000000 in
theorem CJ:bH Tryz.prog 25 [.imm 1 (aO s)] (cD (oH s)):=by
 refine aP Tryz.func25 rfl Tryz.ntmps25 rfl fun B=>?_
 repeat' (first|refine ae ?_|refine a6 ?_|refine a8 ?_|refine aa ?_|refine LF a7 I9 ?_|refine vh (d:=22) fun _=>?_|refine bg a7 fun _=>?_|refine bS a7 ?_|fail)
 rename_i tb b
 refine aS (aR (L':=[dU b s ⟨aH 0,bQ,bQ,bQ,bQ,bQ,bQ,bQ,bQ⟩ ⟨0,0⟩,tB tb]) (Ll _)) ?_
 refine aS (bq 0 (cs':=J3 s ⟨aH 0,.vec none 9 [],.vec none 2 [],bQ,.vec none 2 [],.vec none 4 [],.vec none 1 [],.vec none 1 [],.vec none 1 []⟩ ⟨0,0⟩) rfl fun σ vs h=>cr (k:=3) (cr (k:=4) (cr (k:=6) (cr (k:=7) (cr (k:=8) (cr (k:=9) (cr (k:=10) h rfl fun v hv=>cC 1 hv) rfl fun v hv=>cC 1 hv) rfl fun v hv=>cC 1 hv) rfl fun v hv=>cC 4 hv) rfl fun v hv=>cC 2 hv) rfl fun v hv=>cC 2 hv) rfl fun v hv=>cC 9 hv) ?_
 refine cy ?_
 have hu:=ck s hs 0 (n:=4) (by omega)
 have hu:0≤(dr s 4 ⟨0,0⟩).1∧(dr s 4 ⟨0,0⟩).1 < 4:=hu
 generalize e1:dr s 4 ⟨0,0⟩=u at hu ⊢
 have hul:(aO mj)[u.1.toNat]?=some [aH (mj.getD u.1.toNat 0)]:=bO (jU (by simp only [mj,List.length_cons,List.length_nil];omega) 0)
 generalize hU:mj.getD u.1.toNat 0=U at hul
 repeat' (first|refine ae ?_|refine a6 ?_|refine a8 ?_|refine aa ?_|refine LF a7 I9 ?_|(apply aU;first|refine aT a7 ?_|refine aN a7 ?_)|(apply aK;first|refine LH 6 a7 0 LE ?_|refine LH 6 a7 1 LE ?_|refine LH 6 a7 2 LE ?_|refine LG a7 0 LD ?_|refine LG a7 1 LD ?_|refine LG a7 2 LD ?_|refine LG a7 3 LD ?_|fail))
 refine aS (aR (L':=[dU b s ⟨aH U,.vec none 9 [],.vec none 2 [],bQ,.vec none 2 [],.vec none 4 [],.vec none 1 [],.vec none 1 [],.vec none 1 []⟩ u.2,tB tb]) (Ll _)) ?_
 refine cy ?_
 have hk:=ck s hs u.2.a (n:=3) (by omega)
 have hk:0≤(dr s 3 u.2).1∧(dr s 3 u.2).1 < 3:=hk
 generalize e2:dr s 3 u.2=k1 at hk ⊢
 obtain ⟨k,hkk⟩:∃k:Nat,k1.1=k:=⟨k1.1.toNat,by omega⟩
 rw [hkk]
 repeat' (first|refine ae ?_|refine a6 ?_|refine am ?_|refine a8 ?_|refine aa ?_|refine LF a7 I9 ?_)
 refine aJ [2,3,4] (α:=Nat×Option (Nat×Nat)) (fun x=>[(5,aH x.1)]) (fun x=>x.1≤k) (fun x=>[dU b s ⟨aH U,.vec none 9 [],.vec none 2 [],bQ,.vec none 2 [],.vec x.2 4 ((kF s x.1 k1.2).1.map cG),.vec none 1 [],.vec none 1 [],.vec none 1 []⟩ (kF s x.1 k1.2).2,tB tb]++tok x.2 131 4 ((kF s x.1 k1.2).1.map cG).length) (fun x=>k - x.1) (0,none) rfl ⟨rfl,trivial⟩ (Nat.zero_le _) (fun _ _ h=>h) ?_
 rintro ⟨i,q⟩ hi
 dsimp only at hi ⊢
 have hal:=s3 s i k1.2
 have hstep:kF s (i+1) k1.2=(bZ (dr s 3) fun a=>bZ (dr s 4) fun b=>cx ((kF s i k1.2).1++[(⟨j4 uA i,0 - a * 100,0,b * 100⟩:ey)])) (kF s i k1.2).2:=rfl
 try dsimp only [Lp,Lo,Ln,Lh]
 repeat' (first|refine ae ?_|refine a6 ?_|refine a8 ?_|refine aa ?_|refine LF a7 I9 ?_)
 refine ay rfl (fun h=>?_) (fun h=>?_)
 ·have hil:i < k:=by have:=Ly h;omega
  generalize kF s i k1.2=A at hal hstep ⊢
  have halm:(A.1.map cG).length=A.1.length:=Lr ..
  repeat' (first|refine ae ?_|refine am ?_|refine au ?_|refine a8 ?_)
  refine bI 15 [(0,.v),(1,.v),(2,.v),(3,.v),(4,.v),(5,.v),(6,.v),(10,.v),(7,.e),(8,.v),(9,.v),(11,.e),(12,.v),(13,.v)] (some (14,.box _ 131)) ?_ ⟨_,rfl,rfl,fun _ _ _=>pK (ew a7 rfl) rfl⟩ rfl (by kernel_rfl) (by kernel_rfl) (by kernel_rfl) mixed (by kernel_rfl) rfl
  repeat' (first|refine aF ?_|refine b9 a7 ?_|(apply eA;refine fX ?_)|fail)
  refine C4 a7 ?_
  rw [v8 i (by omega)]
  repeat' (first|refine aF ?_|refine dX a7 ?_|fail)
  refine xX a7 ?_
  rw [yj i (by omega)]
  repeat' (first|refine aF ?_|fail)
  refine Gk (hs:=Nat.le_of_ble_eq_true rfl) ?_
  rw [zj]
  repeat' (first|refine aF ?_|refine b9 a7 ?_|fail)
  refine tl ?_
  have ha:=ck s hs A.2.a (n:=3) (by omega)
  have ha:0≤(dr s 3 A.2).1∧(dr s 3 A.2).1 < 3:=ha
  unfold bZ at hstep
  generalize dr s 3 A.2=a at ha hstep ⊢
  dsimp only at hstep
  repeat' (first|refine aF ?_|(apply eA;refine fX ?_)|fail)
  refine tl ?_
  have hc:=ck s hs a.2.a (n:=4) (by omega)
  have hc:0≤(dr s 4 a.2).1∧(dr s 4 a.2).1 < 4:=hc
  generalize dr s 4 a.2=c at hc hstep ⊢
  try dsimp only [cx] at hstep
  repeat' (first|refine aF ?_|refine b9 a7 ?_|(apply eA;refine fX ?_)|fail)
  refine xY [2,3,4,5,6,52] (fun _=>_) (fun _=>rfl) rfl fun _=>?_
  rename_i ab
  refine aS (aR (Ja (A:=[_,_]))) ?_
  repeat' (first|refine a8 ?_|refine aa ?_|(apply aK;first|refine LH 6 a7 0 LE ?_|refine LH 6 a7 1 LE ?_|refine LH 6 a7 2 LE ?_|refine LG a7 0 LD ?_|refine LG a7 1 LD ?_|refine LG a7 2 LD ?_|refine LG a7 3 LD ?_|fail))
  refine bI 9 [(0,.v),(1,.v),(2,.v),(3,.v),(4,.v),(5,.l),(6,.v),(7,.v),(8,.e)] none ?_ trivial rfl (by kernel_rfl) (by kernel_rfl) (by kernel_rfl) mixed (by kernel_rfl) rfl
  repeat' (first|refine aF ?_|refine b9 a7 ?_|refine dX a7 ?_|refine cS a7 0 rfl rfl rfl rfl (by first|trivial|rfl) ?_)
  refine fg a7 _ rfl rfl rfl rfl (List.perm_append_comm (l₁:=[_,_])) (by simp;omega) (by simp;omega) (by first | trivial | rfl) fun q'=>?_
  refine LP [2,3,4,5,53,61] I9 ?_
  refine aS (aR (List.perm_append_comm (l₂:=[_,_]))) ?_
  repeat' (first|refine a6 ?_|refine a8 ?_|refine aM ?_|refine aa ?_|refine LF a7 I9 ?_|(apply aY;refine aX ?_)|(apply aK;first|refine LH 6 a7 0 LE ?_|refine LH 6 a7 1 LE ?_|refine LH 6 a7 2 LE ?_|refine LG a7 0 LD ?_|refine LG a7 1 LD ?_|refine LG a7 2 LD ?_|refine LG a7 3 LD ?_|fail))
  exact aE (i+1,q') rfl ⟨by rw [Ls];rfl,trivial⟩ (by dsimp only;omega) (by dsimp only;omega) (fun _ _ h=>by dsimp only;rw [hstep];dsimp only;rw [List.map_append];exact h)
 have hil:i=k:=by have:=Lw h;omega
 subst hil
 clear hstep
 have hal:=s3 s i k1.2
 generalize e3:kF s i k1.2=A at hal ⊢
 repeat' (first|refine ae ?_|refine a6 ?_|refine aL ?_|refine a8 ?_|refine av ?_|refine aA ?_|refine aw ?_|refine aa ?_|refine LF a7 I9 ?_)
 refine bK (bq 0 rfl fun σ vs h=>cr (k:=7) (c':= .imm 4 (A.1.map cG)) h rfl fun v hv=>VR.im hv) ?_
 refine bK (bX (L':=[dU b s ⟨aH U,.vec none 9 [],.vec none 2 [],bQ,.vec none 2 [],.imm 4 (A.1.map cG),.vec none 1 [],.vec none 1 [],.vec none 1 []⟩ A.2,tB tb]) (List.Sublist.cons_cons _ (List.Sublist.cons_cons _ (List.nil_sublist _)))) ?_
 refine td [2,3,4] ([dU b s ⟨aH U,.vec none 9 [],.vec none 2 [],bQ,.vec none 2 [],.imm 4 (A.1.map cG),.imm 1 ((fL s i A.2).1.map bT),.vec none 1 [],.vec none 1 []⟩ (fL s i A.2).2,tB tb]) rfl (fun Q' K=>?_) ?_
 ·refine ay rfl (fun h=>?_) (fun h=>?_)
  ·have hi0:¬i=0:=by have:=Ly h;omega
   repeat' (first|refine ae ?_|refine a6 ?_|refine LF a7 I9 ?_)
   refine cy ?_
   have hn:=ck s hs A.2.a (n:=4) (by omega)
   have hn:0≤(dr s 4 A.2).1∧(dr s 4 A.2).1 < 4:=hn
   generalize e4:dr s 4 A.2=n1 at hn ⊢
   obtain ⟨n,hnn⟩:∃k:Nat,n1.1=k:=⟨n1.1.toNat,by omega⟩
   have hv:fL s i A.2=kr s i n n1.2:=by
    unfold fL
    rw [if_neg hi0]
    unfold bZ
    rw [e4]
    dsimp only
    rw [hnn,Int.toNat_natCast]
   rw [hv] at K
   rw [hnn]
   repeat' (first|refine ae ?_|refine a6 ?_|refine am ?_|refine a8 ?_|refine aa ?_|refine LF a7 I9 ?_)
   refine aJ [2,3,4,7] (α:=Nat×Option (Nat×Nat)) (fun x=>[(8,aH x.1)]) (fun x=>x.1≤n) (fun x=>[dU b s ⟨aH U,.vec none 9 [],.vec none 2 [],bQ,.vec none 2 [],.imm 4 (A.1.map cG),.vec x.2 1 ((kr s i x.1 n1.2).1.map bT),.vec none 1 [],.vec none 1 []⟩ (kr s i x.1 n1.2).2,tB tb]++tok x.2 134 1 ((kr s i x.1 n1.2).1.map bT).length) (fun x=>n - x.1) (0,none) rfl ⟨rfl,trivial⟩ (Nat.zero_le _) (fun _ _ h=>h) ?_
   rintro ⟨j,q⟩ hj
   dsimp only at hj ⊢
   have hrl:=sO s i j n1.2
   have hstep:kr s i (j+1) n1.2=((kr s i j n1.2).1++[(hZ s i (kr s i j n1.2).2).1],(hZ s i (kr s i j n1.2).2).2):=rfl
   try dsimp only [Lp,Lo,Ln,Lh]
   repeat' (first|refine ae ?_|refine a6 ?_|refine a8 ?_|refine aa ?_|refine LF a7 I9 ?_)
   refine ay rfl (fun h=>?_) (fun h=>?_)
   ·have hjn:j < n:=by have:=Ly h;omega
    generalize kr s i j n1.2=Rg at hrl hstep ⊢
    have hrlm:(Rg.1.map bT).length=Rg.1.length:=Lr ..
    repeat' (first|refine ae ?_|refine a6 ?_|refine am ?_|refine au ?_|refine a8 ?_|refine aa ?_|refine LF a7 I9 ?_|refine bg a7 fun _=>?_|fail)
    rename_i rb
    refine bK (bq 0 (cs':=[.vec none 3 []]) rfl fun σ vs h=>cr (k:=0) h rfl fun v hv=>cC 3 hv) ?_
    refine bK (aR (List.perm_middle (l₁:=[_,_])).symm) ?_
    refine aJ [2,3,4,7,8,9] (α:=Nat×Option (Nat×Nat)) (fun x=>[(10,aH x.1)]) (fun x=>x.1≤i) (fun x=>[dU b s ⟨aH U,.vec none 9 [],.vec none 2 [],bQ,.vec none 2 [],.imm 4 (A.1.map cG),.vec q 1 (Rg.1.map bT),.vec none 1 [],.vec none 1 []⟩ (hZ s x.1 Rg.2).2,tB tb,(rb,.box [.vec x.2 3 ((hZ s x.1 Rg.2).1.map kj)] 134)]++(tok x.2 136 3 ((hZ s x.1 Rg.2).1.map kj).length++tok q 134 1 (Rg.1.map bT).length)) (fun x=>i - x.1) (0,none) rfl ⟨rfl,trivial⟩ (Nat.zero_le _) (fun _ _ h=>h) ?_
    rintro ⟨a,qt⟩ ha
    dsimp only at ha ⊢
    have htl:=xw s a Rg.2
    have hstt:hZ s (a+1) Rg.2=(bZ (dr s 5) fun z=>cx ((hZ s a Rg.2).1++[ke.getD z.toNat ⟨0,0,0⟩])) (hZ s a Rg.2).2:=rfl
    try dsimp only [Lp,Lo,Ln,Lh]
    repeat' (first|refine ae ?_|refine a6 ?_|refine a8 ?_|refine aa ?_|refine LF a7 I9 ?_)
    refine ay rfl (fun h=>?_) (fun h=>?_)
    ·have hai:a < i:=by have:=Ly h;omega
     generalize hZ s a Rg.2=Tn at htl hstt ⊢
     have htlm:(Tn.1.map kj).length=Tn.1.length:=Lr ..
     repeat' (first|refine ae ?_|refine am ?_|refine au ?_|refine a8 ?_)
     refine dv [.cell (rb,0,.vec qt 3 (Tn.1.map kj))] 13 [(0,.v),(1,.k),(2,.v),(3,.v),(4,.v),(5,.v),(6,.v),(7,.v),(8,.v),(9,.f),(10,.v),(11,.v),(12,.v)] none ?_ trivial rfl (by kernel_rfl) (by kernel_rfl) (by kernel_rfl) mixed (by kernel_rfl) rfl
     repeat' (first|refine aF ?_|refine b9 a7 ?_|fail)
     refine dH a7 0 rfl rfl rfl (bJ 2 rfl rfl bW) (by first | trivial | rfl) ?_
     repeat' (first|refine aF ?_|refine b9 a7 ?_|refine dX a7 ?_|fail)
     refine eJ (bJ 2 rfl rfl bW) ?_
     have hz:=ck s hs Tn.2.a (n:=5) (by omega)
     have hz:0≤(dr s 5 Tn.2).1∧(dr s 5 Tn.2).1 < 5:=hz
     unfold bZ at hstt
     generalize dr s 5 Tn.2=z at hz hstt ⊢
     dsimp only [cx] at hstt
     have hzt:(ke.map kj)[z.1.toNat]?=some (kj (ke.getD z.1.toNat ⟨0,0,0⟩)):=by
      rw [List.getElem?_map,jU (l:=ke) (i:=z.1.toNat) (by simp only [ke,List.length_cons,List.length_nil];omega) ⟨0,0,0⟩]
      rfl
     generalize ke.getD z.1.toNat ⟨0,0,0⟩=tn at hzt hstt
     repeat' (first|refine aF ?_|refine b9 a7 ?_|(apply cE;refine d5 a7 ?_)|refine dX a7 ?_|fail)
     refine LP [2,3,4,7,8,9,10,80,91] I9 ?_
     repeat' (first|fail)
     refine bP a7 _ rfl rfl rfl rfl (eL (A:=[_,_,_])) (by simp;omega) (by simp;omega) rfl fun q'=>?_
     refine aS (aR (eL (A:=[_,_,_])).symm) ?_
     repeat' (first|refine a6 ?_|refine a8 ?_|refine aM ?_|refine aa ?_|refine LF a7 I9 ?_|(apply aY;refine aX ?_)|(apply aK;first|refine LH 6 a7 0 LE ?_|refine LH 6 a7 1 LE ?_|refine LH 6 a7 2 LE ?_|refine LG a7 0 LD ?_|refine LG a7 1 LD ?_|refine LG a7 2 LD ?_|refine LG a7 3 LD ?_|fail))
     exact aE (a+1,q') rfl ⟨by rw [Ls];rfl,trivial⟩ (by dsimp only;omega) (by dsimp only;omega) (fun _ _ h=>by dsimp only;rw [hstt];dsimp only;rw [List.map_append];exact h)
    have hai:a=i:=by have:=Lw h;omega
    subst hai
    clear hstt htl
    generalize hZ s a Rg.2=Tn at hstep ⊢
    repeat' (first|refine aL ?_|refine a8 ?_|refine av ?_|refine aA ?_|refine aw ?_)
    refine bK (bq 2 (cs':=[.imm 3 (Tn.1.map kj)]) rfl fun σ vs h=>cr (k:=0) h rfl fun v hv=>VR.im hv) ?_
    refine bK (bX (L':=[dU b s ⟨aH U,.vec none 9 [],.vec none 2 [],bQ,.vec none 2 [],.imm 4 (A.1.map cG),.vec q 1 (Rg.1.map bT),.vec none 1 [],.vec none 1 []⟩ Tn.2,tB tb,(rb,.box (bT Tn.1) 134)]++tok q 134 1 (Rg.1.map bT).length) (List.Sublist.cons_cons _ (List.Sublist.cons_cons _ (List.Sublist.cons_cons _ (List.sublist_append_right _ _))))) ?_
    refine bI 9 [(0,.v),(1,.v),(2,.v),(3,.v),(4,.v),(5,.l),(6,.l),(7,.v),(8,.e)] none ?_ trivial rfl (by kernel_rfl) (by kernel_rfl) (by kernel_rfl) mixed (by kernel_rfl) rfl
    repeat' (first|refine aF ?_|refine b9 a7 ?_|refine cS a7 0 rfl rfl rfl rfl (by first|trivial|rfl) ?_)
    refine pk a7 2 rfl rfl rfl rfl (by first | trivial | rfl) ?_
    repeat' (first|refine aF ?_|refine dX a7 ?_|fail)
    refine fg a7 _ rfl rfl rfl rfl (List.perm_append_comm (l₁:=[_,_,_])) (by simp;omega) (by simp;omega) (by first | trivial | rfl) fun q'=>?_
    refine LP [2,3,4,7,8,94,102] I9 ?_
    refine aS (aR (List.perm_append_comm (l₂:=[_,_,_]))) ?_
    repeat' (first|refine a6 ?_|refine a8 ?_|refine aM ?_|refine aa ?_|refine LF a7 I9 ?_|(apply aY;refine aX ?_)|(apply aK;first|refine LH 6 a7 0 LE ?_|refine LH 6 a7 1 LE ?_|refine LH 6 a7 2 LE ?_|refine LG a7 0 LD ?_|refine LG a7 1 LD ?_|refine LG a7 2 LD ?_|refine LG a7 3 LD ?_|fail))
    exact aE (j+1,q') rfl ⟨by rw [Ls];rfl,trivial⟩ (by dsimp only;omega) (by dsimp only;omega) (fun _ _ h=>by dsimp only;rw [hstep];dsimp only;rw [List.map_append];exact h.sublist (List.Sublist.cons_cons _ (List.Sublist.cons_cons _ (List.sublist_cons_self ..))))
   have hjn:j=n:=by have:=Lw h;omega
   subst hjn
   generalize kr s i j n1.2=Rg at K ⊢
   repeat' (first|refine aL ?_|refine av ?_|refine aA ?_|refine aw ?_)
   refine b6 (bq 0 rfl fun σ vs h=>cr (k:=8) (c':= .imm 1 (Rg.1.map bT)) h rfl fun v hv=>VR.im hv) ?_
   refine b6 (bX (L':=[dU b s ⟨aH U,.vec none 9 [],.vec none 2 [],bQ,.vec none 2 [],.imm 4 (A.1.map cG),.imm 1 (Rg.1.map bT),.vec none 1 [],.vec none 1 []⟩ Rg.2,tB tb]) (List.Sublist.cons_cons _ (List.Sublist.cons_cons _ (List.nil_sublist _)))) ?_
   exact K _ rfl
  ·have hi0:i=0:=by have:=Lw h;omega
   have hv:fL s i A.2=([],A.2):=by
    unfold fL
    rw [if_pos hi0]
    rfl
   rw [hv] at K
   repeat' (first|refine au ?_)
   refine b6 (bq 0 rfl fun σ vs h=>cr (k:=8) (c':= .imm 1 []) h rfl fun v hv=>VR.im hv) ?_
   exact K _ rfl
 generalize e4:fL s i A.2=rg
 repeat' (first|refine ae ?_|refine a6 ?_|refine LF a7 I9 ?_)
 refine cy ?_
 have hk2:=ck s hs rg.2.a (n:=3) (by omega)
 have hk2:0≤(dr s 3 rg.2).1∧(dr s 3 rg.2).1 < 3:=hk2
 generalize e5:dr s 3 rg.2=k2 at hk2 ⊢
 obtain ⟨k',hkk2⟩:∃k:Nat,k2.1=k:=⟨k2.1.toNat,by omega⟩
 rw [hkk2]
 repeat' (first|refine ae ?_|refine a6 ?_|refine am ?_|refine a8 ?_|refine aa ?_|refine LF a7 I9 ?_)
 refine aJ [2,3,4] (α:=Nat×Option (Nat×Nat)) (fun x=>[(11,aH x.1)]) (fun x=>x.1≤k') (fun x=>[dU b s ⟨aH U,.vec none 9 [],.vec none 2 [],bQ,.vec none 2 [],.imm 4 (A.1.map cG),.imm 1 (rg.1.map bT),.vec x.2 1 ((iC s x.1 k2.2).1.map cV),.vec none 1 []⟩ (iC s x.1 k2.2).2,tB tb]++tok x.2 65 1 ((iC s x.1 k2.2).1.map cV).length) (fun x=>k' - x.1) (0,none) rfl ⟨rfl,trivial⟩ (Nat.zero_le _) (fun _ _ h=>h) ?_
 rintro ⟨j,q2⟩ hj
 dsimp only at hj ⊢
 have hfl:=wJ s j k2.2
 have hstep:iC s (j+1) k2.2=(bZ (gS 0) fun _=>bZ (mL s 6 j 4) fun h=>cx ((iC s j k2.2).1++[h])) (iC s j k2.2).2:=rfl
 try dsimp only [Lp,Lo,Ln,Lh]
 repeat' (first|refine ae ?_|refine a6 ?_|refine a8 ?_|refine aa ?_|refine LF a7 I9 ?_)
 refine ay rfl (fun h=>?_) (fun h=>?_)
 ·have hjk:j < k':=by have:=Ly h;omega
  generalize iC s j k2.2=Fu at hfl hstep ⊢
  have hflm:(Fu.1.map cV).length=Fu.1.length:=Lr ..
  unfold bZ at hstep
  repeat' (first|refine ae ?_|refine a6 ?_|refine am ?_|refine au ?_|refine a8 ?_|refine aa ?_|refine LF a7 I9 ?_|(apply aK;first|refine LH 6 a7 0 LE ?_|refine LH 6 a7 1 LE ?_|refine LH 6 a7 2 LE ?_|refine LG a7 0 LD ?_|refine LG a7 1 LD ?_|refine LG a7 2 LD ?_|refine LG a7 3 LD ?_|fail))
  refine bK (aR (L':=[dU b s ⟨aH U,.vec none 9 [],.vec none 2 [],bQ,.vec none 2 [],.imm 4 (A.1.map cG),.imm 1 (rg.1.map bT),.vec q2 1 (Fu.1.map cV),.vec none 1 []⟩ (gS 0 Fu.2).2,tB tb]++tok q2 65 1 (Fu.1.map cV).length) (Ll _)) ?_
  generalize (gS 0 Fu.2).2=w at hstep ⊢
  dsimp only at hstep
  refine dv [.cell (b,9,.vec q2 1 (Fu.1.map cV))] 11 [(0,.v),(1,.v),(2,.v),(3,.v),(4,.v),(5,.k),(6,.v),(7,.v),(8,.f),(9,.v),(10,.e)] none ?_ trivial rfl (by kernel_rfl) (by kernel_rfl) (by kernel_rfl) mixed (by kernel_rfl) rfl
  repeat' (first|refine aF ?_|refine b9 a7 ?_|fail)
  refine dH a7 0 rfl rfl rfl (bJ 0 rfl rfl bW) (by first | trivial | rfl) ?_
  repeat' (first|refine aF ?_|refine b9 a7 ?_|fail)
  refine s7 (sC s hs _ (n:=6) (fn:=(j:Int)) (most:=4) (by omega) (by omega) (by omega)) (bJ 0 rfl rfl bW) ?_
  generalize mL s 6 j 4 w=hi at hstep ⊢
  try dsimp only [cx] at hstep
  unfold jm
  repeat' (first|refine aF ?_|refine dX a7 ?_|fail)
  refine fg a7 _ rfl rfl rfl rfl (List.perm_append_comm (l₁:=[_,_])) (by simp;omega) (by simp;omega) (by first | trivial | rfl) fun q'=>?_
  refine LP [2,3,4,11,116,126] I9 ?_
  refine aS (aR (List.perm_append_comm (l₂:=[_,_]))) ?_
  repeat' (first|refine a6 ?_|refine a8 ?_|refine aM ?_|refine aa ?_|refine LF a7 I9 ?_|(apply aY;refine aX ?_)|(apply aK;first|refine LH 6 a7 0 LE ?_|refine LH 6 a7 1 LE ?_|refine LH 6 a7 2 LE ?_|refine LG a7 0 LD ?_|refine LG a7 1 LD ?_|refine LG a7 2 LD ?_|refine LG a7 3 LD ?_|fail))
  exact aE (j+1,q') rfl ⟨by rw [Ls];rfl,trivial⟩ (by dsimp only;omega) (by dsimp only;omega) (fun _ _ h=>by dsimp only;rw [hstep];dsimp only;rw [List.map_append];exact h)
 have hjk:j=k':=by have:=Lw h;omega
 subst hjk
 clear hstep
 generalize e6:iC s j k2.2=fu at hfl ⊢
 repeat' (first|refine ae ?_|refine a6 ?_|refine aL ?_|refine a8 ?_|refine av ?_|refine aA ?_|refine aw ?_|refine LF a7 I9 ?_)
 refine aS (bq 0 rfl fun σ vs h=>cr (k:=9) (c':= .imm 1 (fu.1.map cV)) h rfl fun v hv=>VR.im hv) ?_
 refine aS (bX (L':=[dU b s ⟨aH U,.vec none 9 [],.vec none 2 [],bQ,.vec none 2 [],.imm 4 (A.1.map cG),.imm 1 (rg.1.map bT),.imm 1 (fu.1.map cV),.vec none 1 []⟩ fu.2,tB tb]) (List.Sublist.cons_cons _ (List.Sublist.cons_cons _ (List.nil_sublist _)))) ?_
 refine cy ?_
 have hk3:=ck s hs fu.2.a (n:=4) (by omega)
 have hk3:0≤(dr s 4 fu.2).1∧(dr s 4 fu.2).1 < 4:=hk3
 generalize e7:dr s 4 fu.2=k3 at hk3 ⊢
 obtain ⟨k'',hkk3⟩:∃k:Nat,k3.1=k:=⟨k3.1.toNat,by omega⟩
 rw [hkk3]
 repeat' (first|refine ae ?_|refine a6 ?_|refine am ?_|refine a8 ?_|refine aa ?_|refine LF a7 I9 ?_)
 refine aJ [2,3,4] (α:=Nat×Option (Nat×Nat)) (fun x=>[(12,aH x.1)]) (fun x=>x.1≤k'') (fun x=>[dU b s ⟨aH U,.vec none 9 [],.vec none 2 [],bQ,.vec none 2 [],.imm 4 (A.1.map cG),.imm 1 (rg.1.map bT),.imm 1 (fu.1.map cV),.vec x.2 1 (aO (qi s x.1 k3.2).1)⟩ (qi s x.1 k3.2).2,tB tb]++tok x.2 3 1 (aO (qi s x.1 k3.2).1).length) (fun x=>k'' - x.1) (0,none) rfl ⟨rfl,trivial⟩ (Nat.zero_le _) (fun _ _ h=>h) ?_
 rintro ⟨jc,q3⟩ hjc
 dsimp only at hjc ⊢
 have hcl:=C2 s jc k3.2
 have hstep:qi s (jc+1) k3.2=(bZ (dr s 500) fun z=>cx ((qi s jc k3.2).1++[z - 100])) (qi s jc k3.2).2:=rfl
 try dsimp only [Lp,Lo,Ln,Lh]
 repeat' (first|refine ae ?_|refine a6 ?_|refine a8 ?_|refine aa ?_|refine LF a7 I9 ?_)
 refine ay rfl (fun h=>?_) (fun h=>?_)
 ·have hjk:jc < k'':=by have:=Ly h;omega
  generalize qi s jc k3.2=C at hcl hstep ⊢
  have hclm:(aO C.1).length=C.1.length:=aW _
  unfold bZ at hstep
  repeat' (first|refine ae ?_|refine am ?_|refine au ?_|refine a8 ?_)
  refine dv [.cell (b,10,.vec q3 1 (aO C.1))] 11 [(0,.v),(1,.v),(2,.v),(3,.v),(4,.v),(5,.k),(6,.v),(7,.f),(8,.v),(9,.v),(10,.e)] none ?_ trivial rfl (by kernel_rfl) (by kernel_rfl) (by kernel_rfl) mixed (by kernel_rfl) rfl
  repeat' (first|refine aF ?_|refine b9 a7 ?_|fail)
  refine dH a7 0 rfl rfl rfl (bJ 0 rfl rfl bW) (by first | trivial | rfl) ?_
  repeat' (first|refine aF ?_|refine b9 a7 ?_|fail)
  refine eJ (bJ 0 rfl rfl bW) ?_
  have hz:=ck s hs C.2.a (n:=500) (by omega)
  have hz:0≤(dr s 500 C.2).1∧(dr s 500 C.2).1 < 500:=hz
  generalize dr s 500 C.2=z at hz hstep ⊢
  try dsimp only [cx] at hstep
  repeat' (first|refine aF ?_|(apply eA;refine fX ?_)|refine dX a7 ?_|fail)
  refine fg a7 _ rfl rfl rfl rfl (List.perm_append_comm (l₁:=[_,_])) (by simp [aW];omega) (by simp [aW];omega) (by first | trivial | rfl) fun q'=>?_
  refine LP [2,3,4,12,137,147] I9 ?_
  refine aS (aR (List.perm_append_comm (l₂:=[_,_]))) ?_
  repeat' (first|refine a6 ?_|refine a8 ?_|refine aM ?_|refine aa ?_|refine LF a7 I9 ?_|(apply aY;refine aX ?_)|(apply aK;first|refine LH 6 a7 0 LE ?_|refine LH 6 a7 1 LE ?_|refine LH 6 a7 2 LE ?_|refine LG a7 0 LD ?_|refine LG a7 1 LD ?_|refine LG a7 2 LD ?_|refine LG a7 3 LD ?_|fail))
  exact aE (jc+1,q') rfl ⟨by rw [Ls];rfl,trivial⟩ (by dsimp only;omega) (by dsimp only;omega) (fun _ _ h=>by dsimp only;rw [hstep];dsimp only;rw [show aO (C.1++[z.1 - 100])=aO C.1++[[aH (z.1 - 100)]] from List.map_append ..];exact h)
 have hjk:jc=k'':=by have:=Lw h;omega
 subst hjk
 clear hstep
 generalize e8:qi s jc k3.2=cv at hcl ⊢
 repeat' (first|refine ae ?_|refine a6 ?_|refine aL ?_|refine a8 ?_|refine av ?_|refine aA ?_|refine aw ?_|refine LF a7 I9 ?_)
 refine aS (bq 0 rfl fun σ vs h=>cr (k:=10) (c':= .imm 1 (aO cv.1)) h rfl fun v hv=>VR.im hv) ?_
 refine aS (bX (L':=[dU b s ⟨aH U,.vec none 9 [],.vec none 2 [],bQ,.vec none 2 [],.imm 4 (A.1.map cG),.imm 1 (rg.1.map bT),.imm 1 (fu.1.map cV),.imm 1 (aO cv.1)⟩ cv.2,tB tb]) (List.Sublist.cons_cons _ (List.Sublist.cons_cons _ (List.nil_sublist _)))) ?_
 refine cy ?_
 have hk4:=ck s hs cv.2.a (n:=9) (by omega)
 have hk4:0≤(dr s 9 cv.2).1∧(dr s 9 cv.2).1 < 9:=hk4
 generalize e9:dr s 9 cv.2=k4 at hk4 ⊢
 obtain ⟨n,hkk4⟩:∃k:Nat,2+k4.1=k:=⟨(2+k4.1).toNat,by omega⟩
 repeat' (first|refine ae ?_|refine a6 ?_|refine am ?_|refine a8 ?_|refine aa ?_|refine LF a7 I9 ?_|(apply aY;refine aX ?_)|fail)
 rw [hkk4]
 have hrgl:(rg.1.map bT).length=rg.1.length:=Lr ..
 have hful:(fu.1.map cV).length=fu.1.length:=Lr ..
 have hrg3:rg.1.length≤1000:=by
  have hR:bU (fL s A.1.length) fun l=>l.length≤3:=bU.ite (fun _=>bU.ret (Nat.zero_le _)) fun _=>(cM s (by omega)).bnd fun n hn m=>by rw [sO];omega
  have:=hR A.2
  rw [hal] at this
  rw [←e4]
  omega
 refine aJ [2,3,4] (α:=Nat×Option (Nat×Nat)) (fun x=>[(13,aH x.1)]) (fun x=>x.1≤n) (fun x=>[dU b s ⟨aH U,.vec x.2 9 ((gg s rg.1.length fu.1.length x.1 k4.2).1.map bj),.vec none 2 [],bQ,.vec none 2 [],.imm 4 (A.1.map cG),.imm 1 (rg.1.map bT),.imm 1 (fu.1.map cV),.imm 1 (aO cv.1)⟩ (gg s rg.1.length fu.1.length x.1 k4.2).2,tB tb]++tok x.2 67 9 ((gg s rg.1.length fu.1.length x.1 k4.2).1.map bj).length) (fun x=>n - x.1) (0,none) rfl ⟨rfl,trivial⟩ (Nat.zero_le _) (fun _ _ h=>h) ?_
 rintro ⟨jg,q4⟩ hjg
 dsimp only at hjg ⊢
 have hgl:=uU s rg.1.length fu.1.length jg k4.2
 have hstep:gg s rg.1.length fu.1.length (jg+1) k4.2=(bZ (jV s rg.1.length fu.1.length jg) fun g=>cx ((gg s rg.1.length fu.1.length jg k4.2).1++[g])) (gg s rg.1.length fu.1.length jg k4.2).2:=rfl
 try dsimp only [Lp,Lo,Ln,Lh]
 repeat' (first|refine ae ?_|refine a6 ?_|refine a8 ?_|refine aa ?_|refine LF a7 I9 ?_)
 refine ay rfl (fun h=>?_) (fun h=>?_)
 ·have hjn:jg < n:=by have:=Ly h;omega
  generalize gg s rg.1.length fu.1.length jg k4.2=Gs at hgl hstep ⊢
  have hglm:(Gs.1.map bj).length=Gs.1.length:=Lr ..
  unfold bZ at hstep
  repeat' (first|refine ae ?_|refine a6 ?_|refine am ?_|refine au ?_|refine a8 ?_|refine LF a7 I9 ?_)
  refine bh ([dU b s ⟨aH U,.vec q4 9 (Gs.1.map bj),.vec none 2 [],bQ,.vec none 2 [],.imm 4 (A.1.map cG),.imm 1 (rg.1.map bT),.imm 1 (fu.1.map cV),.imm 1 (aO cv.1)⟩ Gs.2]++(tok q4 67 9 (Gs.1.map bj).length++[])) [tB tb] (Cm s hs ⟨aH U,.vec q4 9 (Gs.1.map bj),.vec none 2 [],bQ,.vec none 2 [],.imm 4 (A.1.map cG),.imm 1 (rg.1.map bT),.imm 1 (fu.1.map cV),.imm 1 (aO cv.1)⟩ rfl rfl rfl rg.1.length fu.1.length jg hrgl hful (by omega) (by omega) (by omega) (by omega) b Gs.2) rfl rfl De rfl fun c L1 ⟨q',hL1⟩=>?_
  subst hL1
  refine aS (aR De.symm) ?_
  generalize jV s rg.1.length fu.1.length jg Gs.2=g at hstep ⊢
  try dsimp only [cx] at hstep
  repeat' (first|refine a6 ?_|refine a8 ?_|refine aM ?_|refine aa ?_|refine LF a7 I9 ?_|(apply aY;refine aX ?_)|fail)
  exact aE (jg+1,q') rfl ⟨by rw [Ls];rfl,trivial⟩ (by dsimp only;omega) (by dsimp only;omega) (fun _ _ h=>by dsimp only;rw [hstep];dsimp only;rw [List.map_append];exact h)
 have hjn:jg=n:=by have:=Lw h;omega
 subst hjn
 clear hstep
 generalize e10:gg s rg.1.length fu.1.length jg k4.2=gl at hgl ⊢
 have hglm:(gl.1.map bj).length=gl.1.length:=Lr ..
 repeat' (first|refine ae ?_|refine a6 ?_|refine aL ?_|refine a8 ?_|refine av ?_|refine aA ?_|refine aw ?_)
 refine bi (hc:=⟨AI⟩) ?_
 refine aS (bX (L':=[dU b s ⟨aH U,.vec q4 9 (gl.1.map bj),.vec none 2 [],bQ,.vec none 2 [],.imm 4 (A.1.map cG),.imm 1 (rg.1.map bT),.imm 1 (fu.1.map cV),.imm 1 (aO cv.1)⟩ gl.2,tB tb]) (List.Sublist.cons_cons _ (List.Sublist.cons_cons _ (List.nil_sublist _)))) ?_
 repeat' (first|refine ae ?_|refine a6 ?_|refine am ?_|refine a8 ?_|refine aa ?_|refine LF a7 I9 ?_)
 have hr16:(aO eP).length=16:=rfl
 refine aJ [2,3,14] (α:=Nat×Option (Nat×Nat)) (fun x=>[(15,aH x.1)]) (fun x=>x.1≤16) (fun x=>[dU b s ⟨aH U,.vec q4 9 (gl.1.map bj),.vec x.2 2 ((gZ s gl.1.length x.1 gl.2).1.map dc),bQ,.vec none 2 [],.imm 4 (A.1.map cG),.imm 1 (rg.1.map bT),.imm 1 (fu.1.map cV),.imm 1 (aO cv.1)⟩ (gZ s gl.1.length x.1 gl.2).2,tB tb]++tok x.2 58 2 ((gZ s gl.1.length x.1 gl.2).1.map dc).length) (fun x=>16 - x.1) (0,none) rfl ⟨rfl,trivial⟩ (Nat.zero_le _) (fun _ _ h=>h) ?_
 rintro ⟨jr,q5⟩ hjr
 dsimp only at hjr ⊢
 have hcl2:=ww s gl.1.length jr gl.2
 have hstep:gZ s gl.1.length (jr+1) gl.2=(bZ (dr s 4) fun z=>if 0 < z then bZ (dr s gl.1.length) fun g=>cx ((gZ s gl.1.length jr gl.2).1++[(⟨eP.getD jr 0,g⟩:cR)]) else cx (gZ s gl.1.length jr gl.2).1) (gZ s gl.1.length jr gl.2).2:=rfl
 try dsimp only [Lp,Lo,Ln,Lh]
 repeat' (first|refine ae ?_|refine a6 ?_|refine a8 ?_|refine aa ?_|refine LF a7 I9 ?_)
 refine ay rfl (fun h=>?_) (fun h=>?_)
 ·have hj16:jr < 16:=by have:=Ly h;rw [hr16] at this;omega
  have hrn:(aO eP)[jr]?=some [aH (eP.getD jr 0)]:=bO (jU hj16 0)
  generalize eP.getD jr 0=rn at hrn hstep
  generalize gZ s gl.1.length jr gl.2=Ch at hcl2 hstep ⊢
  have hchm:(Ch.1.map dc).length=Ch.1.length:=Lr ..
  unfold bZ at hstep
  repeat' (first|refine ae ?_|refine a6 ?_|refine am ?_|refine au ?_|refine a8 ?_|refine LF a7 I9 ?_)
  refine cy ?_
  generalize dr s 4 Ch.2=z at hstep ⊢
  dsimp only at hstep
  repeat' (first|refine a8 ?_|refine aa ?_|refine LF a7 I9 ?_)
  refine ay rfl (fun hz=>?_) (fun hz=>?_)
  ·rw [if_pos (Ly hz)] at hstep
   repeat' (first|fail)
   refine dv [.cell (b,4,.vec q5 2 (Ch.1.map dc))] 21 [(0,.v),(1,.v),(2,.v),(3,.v),(4,.v),(5,.k),(6,.v),(7,.v),(8,.v),(9,.v),(10,.v),(11,.v),(12,.v),(13,.v),(14,.v),(15,.l),(16,.v),(17,.f),(18,.v),(19,.v),(20,.e)] none ?_ trivial rfl (by kernel_rfl) (by kernel_rfl) (by kernel_rfl) mixed (by kernel_rfl) rfl
   repeat' (first|refine aF ?_|refine b9 a7 ?_|fail)
   refine dH a7 0 rfl rfl rfl (bJ 0 rfl rfl bW) (by first | trivial | rfl) ?_
   repeat' (first|refine aF ?_|refine b9 a7 ?_|(apply cE;refine d5 a7 ?_)|refine cS a7 0 rfl rfl rfl rfl (by first|trivial|rfl) ?_)
   rw [hglm]
   refine eJ (bJ 0 rfl rfl bW) ?_
   generalize dr s gl.1.length z.2=g at hstep ⊢
   try dsimp only [cx] at hstep
   repeat' (first|refine aF ?_|refine b9 a7 ?_|refine dX a7 ?_|fail)
   refine fg a7 _ rfl rfl rfl rfl (List.perm_append_comm (l₁:=[_,_])) (by simp;omega) (by simp;omega) (by first | trivial | rfl) fun q'=>?_
   refine LP [2,3,14,15,172,192] I9 ?_
   refine aS (aR (List.perm_append_comm (l₂:=[_,_]))) ?_
   repeat' (first|refine a6 ?_|refine a8 ?_|refine aM ?_|refine aa ?_|refine LF a7 I9 ?_|(apply aY;refine aX ?_)|(apply aK;first|refine LH 6 a7 0 LE ?_|refine LH 6 a7 1 LE ?_|refine LH 6 a7 2 LE ?_|refine LG a7 0 LD ?_|refine LG a7 1 LD ?_|refine LG a7 2 LD ?_|refine LG a7 3 LD ?_|fail))
   exact aE (jr+1,q') rfl ⟨by rw [Ls];rfl,trivial⟩ (by dsimp only;omega) (by dsimp only;omega) (fun _ _ h=>by dsimp only;rw [hstep];dsimp only;rw [List.map_append];exact h)
  ·rw [if_neg (Lw hz)] at hstep
   try dsimp only [cx] at hstep
   repeat' (first|refine a6 ?_|refine au ?_|refine a8 ?_|refine aM ?_|refine aa ?_|refine LF a7 I9 ?_|(apply aY;refine aX ?_)|fail)
   exact aE (jr+1,q5) rfl ⟨by rw [Ls];rfl,trivial⟩ (by dsimp only;omega) (by dsimp only;omega) (fun _ _ h=>by dsimp only;rw [hstep];exact h)
 have hj16:jr=16:=by have:=Lw h;rw [hr16] at this;omega
 subst hj16
 clear hstep
 generalize e11:gZ s gl.1.length 16 gl.2=ch at hcl2 ⊢
 repeat' (first|refine ae ?_|refine a6 ?_|refine aL ?_|refine a8 ?_|refine av ?_|refine aA ?_|refine aw ?_|refine LF a7 I9 ?_)
 refine aS (bq 0 rfl fun σ vs h=>cr (k:=4) (c':= .imm 2 (ch.1.map dc)) h rfl fun v hv=>VR.im hv) ?_
 refine aS (bX (L':=[dU b s ⟨aH U,.vec q4 9 (gl.1.map bj),.imm 2 (ch.1.map dc),bQ,.vec none 2 [],.imm 4 (A.1.map cG),.imm 1 (rg.1.map bT),.imm 1 (fu.1.map cV),.imm 1 (aO cv.1)⟩ ch.2]++[tB tb]) (List.Sublist.cons_cons _ (List.Sublist.cons_cons _ (List.nil_sublist _)))) ?_
 refine bh [dU b s ⟨aH U,.vec q4 9 (gl.1.map bj),.imm 2 (ch.1.map dc),bQ,.vec none 2 [],.imm 4 (A.1.map cG),.imm 1 (rg.1.map bT),.imm 1 (fu.1.map cV),.imm 1 (aO cv.1)⟩ ch.2] [tB tb] (wY s hs ⟨aH U,.vec q4 9 (gl.1.map bj),.imm 2 (ch.1.map dc),bQ,.vec none 2 [],.imm 4 (A.1.map cG),.imm 1 (rg.1.map bT),.imm 1 (fu.1.map cV),.imm 1 (aO cv.1)⟩ rfl rfl gl.1.length hglm (by omega) b ch.2) rfl rfl (Ll _) rfl fun c L1 hL1=>?_
 subst hL1
 have hlk6:=(oG s (n:=gl.1.length) (by omega) ch.2).len
 generalize e12:iF s gl.1.length ch.2=lk at hlk6 ⊢
 have hlkm:(lk.1.map bv).length=lk.1.length:=Lr ..
 repeat' (first|refine ae ?_|refine a6 ?_|refine a8 ?_|refine aa ?_)
 refine bi (hc:=⟨vn⟩) ?_
 refine aS (aR (L':=[dU b s ⟨aH U,.vec q4 9 (gl.1.map bj),.imm 2 (ch.1.map dc),.imm 3 (lk.1.map bv),.vec none 2 [],.imm 4 (A.1.map cG),.imm 1 (rg.1.map bT),.imm 1 (fu.1.map cV),.imm 1 (aO cv.1)⟩ lk.2,tB tb]) (Ll _)) ?_
 repeat' (first|refine ae ?_|refine a6 ?_|refine am ?_|refine a8 ?_|refine aa ?_|refine LF a7 I9 ?_)
 have hn8:(rq fG).length=8:=rfl
 refine aJ [2,3,16] (α:=Nat×Option (Nat×Nat)) (fun x=>[(17,aH x.1)]) (fun x=>x.1≤8) (fun x=>[dU b s ⟨aH U,.vec q4 9 (gl.1.map bj),.imm 2 (ch.1.map dc),.imm 3 (lk.1.map bv),.vec x.2 2 ((hY s lk.1.length x.1 lk.2).1.map bE),.imm 4 (A.1.map cG),.imm 1 (rg.1.map bT),.imm 1 (fu.1.map cV),.imm 1 (aO cv.1)⟩ (hY s lk.1.length x.1 lk.2).2,tB tb]++tok x.2 78 2 ((hY s lk.1.length x.1 lk.2).1.map bE).length) (fun x=>8 - x.1) (0,none) rfl ⟨rfl,trivial⟩ (Nat.zero_le _) (fun _ _ h=>h) ?_
 rintro ⟨jf,q6⟩ hjf
 dsimp only at hjf ⊢
 have hftl:=wG s lk.1.length jf lk.2
 have hstep:hY s lk.1.length (jf+1) lk.2=(bZ (nA s lk.1.length) fun r=>bZ (dr s 2) fun z=>cx (if z=0 then (hY s lk.1.length jf lk.2).1++[(⟨fG.getD jf ByteArray.empty,r⟩:bN)] else (hY s lk.1.length jf lk.2).1)) (hY s lk.1.length jf lk.2).2:=rfl
 try dsimp only [Lp,Lo,Ln,Lh]
 repeat' (first|refine ae ?_|refine a6 ?_|refine a8 ?_|refine aa ?_|refine LF a7 I9 ?_)
 refine ay rfl (fun h=>?_) (fun h=>?_)
 ·have hj8:jf < 8:=by have:=Ly h;rw [hn8] at this;omega
  have hnm:(rq fG)[jf]?=some [rE (fG.getD jf ByteArray.empty)]:=vS (jU hj8 ByteArray.empty)
  generalize fG.getD jf ByteArray.empty=nm at hnm hstep
  generalize hY s lk.1.length jf lk.2=Ft at hftl hstep ⊢
  have hftm:(Ft.1.map bE).length=Ft.1.length:=Lr ..
  unfold bZ at hstep
  repeat' (first|refine ae ?_|refine a6 ?_|refine am ?_|refine au ?_|refine a8 ?_|refine aa ?_|refine LF a7 I9 ?_)
  refine bK (bA (t:=18) (c':= .vec none 1 []) rfl fun σ v h=>cC 1 h) ?_
  refine aJ [2,3,16,17] (α:=Nat×Option (Nat×Nat)) (fun x=>[(19,aH x.1),(18,.vec x.2 1 (aO (nA s x.1 Ft.2).1))]) (fun x=>x.1≤lk.1.length) (fun x=>[dU b s ⟨aH U,.vec q4 9 (gl.1.map bj),.imm 2 (ch.1.map dc),.imm 3 (lk.1.map bv),.vec q6 2 (Ft.1.map bE),.imm 4 (A.1.map cG),.imm 1 (rg.1.map bT),.imm 1 (fu.1.map cV),.imm 1 (aO cv.1)⟩ (nA s x.1 Ft.2).2,tB tb]++(tok x.2 3 1 (aO (nA s x.1 Ft.2).1).length++tok q6 78 2 (Ft.1.map bE).length)) (fun x=>lk.1.length - x.1) (0,none) rfl ⟨rfl,rfl,trivial⟩ (Nat.zero_le _) (fun _ _ h=>h) ?_
  rintro ⟨a,q7⟩ ha
  dsimp only at ha ⊢
  have hal7:=BI s a Ft.2
  have hst7:nA s (a+1) Ft.2=(bZ (dr s 3) fun z=>cx (if z=0 then (nA s a Ft.2).1++[(a:Int)] else (nA s a Ft.2).1)) (nA s a Ft.2).2:=rfl
  try dsimp only [Lp,Lo,Ln,Lh]
  repeat' (first|refine ae ?_|refine a6 ?_|refine a8 ?_|refine aa ?_|refine LF a7 I9 ?_|(apply bL;first|refine LI a7 0 LC ?_|refine LI a7 1 LC ?_|refine LI a7 2 LC ?_|refine LI a7 3 LC ?_|refine LJ a7 0 LC ?_|refine LJ a7 1 LC ?_|refine LJ a7 2 LC ?_|refine LL a7 1 LA (by assumption) rfl ?_|refine LL a7 0 LA (by assumption) rfl ?_|fail)|fail)
  refine ay rfl (fun h=>?_) (fun h=>?_)
  ·have hal:a < lk.1.length:=by have:=Ly h;rw [hlkm] at this;omega
   generalize nA s a Ft.2=As at hal7 hst7 ⊢
   have hasm:(aO As.1).length=As.1.length:=aW _
   unfold bZ at hst7
   repeat' (first|refine ae ?_|refine a6 ?_|refine am ?_|refine au ?_|refine a8 ?_|refine LF a7 I9 ?_)
   refine cy ?_
   generalize dr s 3 As.2=z at hst7 ⊢
   dsimp only [cx] at hst7
   repeat' (first|refine a8 ?_|refine aa ?_|refine LF a7 I9 ?_)
   refine ay rfl (fun hz=>?_) (fun hz=>?_)
   ·rw [if_pos (Ly hz)] at hst7
    repeat' (first|refine a6 ?_|refine LF a7 I9 ?_|refine bS a7 ?_|fail)
    refine bP a7 _ rfl rfl rfl rfl (eL (A:=[_,_])) (by simp [aW];omega) (by simp [aW];omega) rfl fun q'=>?_
    refine aS (aR (eL (A:=[_,_])).symm) ?_
    repeat' (first|refine a6 ?_|refine a8 ?_|refine aM ?_|refine aa ?_|refine LF a7 I9 ?_|(apply aY;refine aX ?_)|fail)
    exact aE (a+1,q') rfl ⟨by rw [Ls];rfl,by rw [hst7];dsimp only;rw [show aO (As.1++[(a:Int)])=aO As.1++[[aH (a:Int)]] from List.map_append ..];rfl,trivial⟩ (by dsimp only;omega) (by dsimp only;omega) (fun _ _ h=>by dsimp only;rw [hst7];dsimp only;rw [show aO (As.1++[(a:Int)])=aO As.1++[[aH (a:Int)]] from List.map_append ..];exact h)
   ·rw [if_neg (Lw hz)] at hst7
    repeat' (first|refine a6 ?_|refine au ?_|refine a8 ?_|refine aM ?_|refine aa ?_|refine LF a7 I9 ?_|(apply aY;refine aX ?_)|fail)
    exact aE (a+1,q7) rfl ⟨by rw [Ls];rfl,by rw [hst7];rfl,trivial⟩ (by dsimp only;omega) (by dsimp only;omega) (fun _ _ h=>by dsimp only;rw [hst7];exact h)
  have hal:a=lk.1.length:=by have:=Lw h;rw [hlkm] at this;omega
  subst hal
  clear hst7
  generalize nA s lk.1.length Ft.2=As at hal7 hstep ⊢
  dsimp only at hstep
  repeat' (first|refine ae ?_|refine a6 ?_|refine aL ?_|refine a8 ?_|refine av ?_|refine aA ?_|refine aw ?_|refine LF a7 I9 ?_)
  refine aS (bA (t:=18) (c':= .imm 1 (aO As.1)) rfl fun σ v h=>VR.im h) ?_
  refine aS (bX (L':=[dU b s ⟨aH U,.vec q4 9 (gl.1.map bj),.imm 2 (ch.1.map dc),.imm 3 (lk.1.map bv),.vec q6 2 (Ft.1.map bE),.imm 4 (A.1.map cG),.imm 1 (rg.1.map bT),.imm 1 (fu.1.map cV),.imm 1 (aO cv.1)⟩ As.2,tB tb]++tok q6 78 2 (Ft.1.map bE).length) (List.Sublist.cons_cons _ (List.Sublist.cons_cons _ (List.sublist_append_right _ _)))) ?_
  refine cy ?_
  generalize dr s 2 As.2=z at hstep ⊢
  dsimp only [cx] at hstep
  repeat' (first|refine a8 ?_|refine aa ?_|refine LF a7 I9 ?_)
  refine ay rfl (fun hz=>?_) (fun hz=>?_)
  ·rw [if_pos (Ly hz)] at hstep
   repeat' (first|fail)
   refine bI 14 [(0,.v),(1,.v),(2,.v),(3,.v),(4,.v),(5,.l),(6,.v),(7,.v),(8,.v),(9,.v),(10,.v),(11,.v),(12,.v),(13,.e)] none ?_ trivial rfl (by kernel_rfl) (by kernel_rfl) (by kernel_rfl) mixed (by kernel_rfl) rfl
   repeat' (first|refine aF ?_|refine b9 a7 ?_|(apply cE;refine d5 a7 ?_)|refine dX a7 ?_|refine cS a7 0 rfl rfl rfl rfl (by first|trivial|rfl) ?_)
   refine fg a7 _ rfl rfl rfl rfl (List.perm_append_comm (l₁:=[_,_])) (by simp;omega) (by simp;omega) (by first | trivial | rfl) fun q'=>?_
   refine LP [2,3,16,17,225,238] I9 ?_
   refine aS (aR (List.perm_append_comm (l₂:=[_,_]))) ?_
   repeat' (first|refine a6 ?_|refine a8 ?_|refine aM ?_|refine aa ?_|refine LF a7 I9 ?_|(apply aY;refine aX ?_)|(apply aK;first|refine LH 6 a7 0 LE ?_|refine LH 6 a7 1 LE ?_|refine LH 6 a7 2 LE ?_|refine LG a7 0 LD ?_|refine LG a7 1 LD ?_|refine LG a7 2 LD ?_|refine LG a7 3 LD ?_|fail))
   exact aE (jf+1,q') rfl ⟨by rw [Ls];rfl,trivial⟩ (by dsimp only;omega) (by dsimp only;omega) (fun _ _ h=>by dsimp only;rw [hstep];dsimp only;rw [List.map_append];exact h)
  ·rw [if_neg (Lw hz)] at hstep
   repeat' (first|refine a6 ?_|refine au ?_|refine a8 ?_|refine aM ?_|refine aa ?_|refine LF a7 I9 ?_|(apply aY;refine aX ?_)|fail)
   exact aE (jf+1,q6) rfl ⟨by rw [Ls];rfl,trivial⟩ (by dsimp only;omega) (by dsimp only;omega) (fun _ _ h=>by dsimp only;rw [hstep];exact h)
 have hj8:jf=8:=by have:=Lw h;rw [hn8] at this;omega
 subst hj8
 clear hstep
 generalize e13:hY s lk.1.length 8 lk.2=ft at hftl ⊢
 repeat' (first|refine ae ?_|refine a6 ?_|refine aq ?_|refine aL ?_|refine a8 ?_|refine av ?_|refine aA ?_|refine aw ?_|refine aa ?_|refine LF a7 I9 ?_|(apply bL;first|refine LI a7 0 LC ?_|refine LI a7 1 LC ?_|refine LI a7 2 LC ?_|refine LI a7 3 LC ?_|refine LJ a7 0 LC ?_|refine LJ a7 1 LC ?_|refine LJ a7 2 LC ?_|refine LL a7 1 LA (by assumption) rfl ?_|refine LL a7 0 LA (by assumption) rfl ?_|fail)|(apply aK;first|refine LH 6 a7 0 LE ?_|refine LH 6 a7 1 LE ?_|refine LH 6 a7 2 LE ?_|refine LG a7 0 LD ?_|refine LG a7 1 LD ?_|refine LG a7 2 LD ?_|refine LG a7 3 LD ?_|fail))
 have hv:oH s=⟨U,gl.1,ch.1,lk.1,ft.1,A.1,rg.1,fu.1,cv.1⟩:=by
  unfold oH CH bZ
  rw [e1]
  try dsimp only
  rw [e2]
  try dsimp only
  rw [hkk,Int.toNat_natCast,e3]
  try dsimp only
  rw [e4,e5]
  try dsimp only
  rw [hkk2,Int.toNat_natCast,e6]
  try dsimp only
  rw [e7]
  try dsimp only
  rw [hkk3,Int.toNat_natCast,e8]
  try dsimp only
  rw [e9]
  try dsimp only
  rw [hkk4,Int.toNat_natCast,e10]
  try dsimp only
  rw [e11]
  try dsimp only
  rw [e12]
  try dsimp only
  rw [e13,hU]
  rfl
 rw [hv]
 exact b6 (bq 1 (cs':=c6 ⟨U,gl.1,ch.1,lk.1,ft.1,A.1,rg.1,fu.1,cv.1⟩) rfl fun σ vs h=>ld.vrs (a:=[aH U,.vec q4 9 (gl.1.map bj),.imm 2 (ch.1.map dc),.imm 3 (lk.1.map bv),.vec q6 2 (ft.1.map bE),.imm 4 (A.1.map cG),.imm 1 (rg.1.map bT),.imm 1 (fu.1.map cV),.imm 1 (aO cv.1)]) (b:=c6 ⟨U,gl.1,ch.1,lk.1,ft.1,A.1,rg.1,fu.1,cv.1⟩) ⟨cF.refl _,cF.im,cF.refl _,cF.refl _,cF.im,cF.refl _,cF.refl _,cF.refl _,cF.refl _,trivial⟩ h) (ic a7 1 [] rfl rfl rfl rfl rfl (List.nil_sublist _) rfl)
end Go.Proofs.YtamjlkdanllgjaaGreatDoor
