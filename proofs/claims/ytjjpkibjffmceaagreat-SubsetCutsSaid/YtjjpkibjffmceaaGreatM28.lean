/-
  The maker: fonts.
-/
import Derived.Test.YtjjpkibjffmceaaGreatM27
import Derived.Test.YtjjpkibjffmceaaGreatM25
import Derived.Test.YtjjpkibjffmceaaGreatM24
namespace Go.Proofs.YtjjpkibjffmceaaGreat
open Go.RowKit
attribute [local irreducible] AT cg AX AO Av Kt bJ eC DA du
variable (s:List Int) (hs:s.length≤1000000)
theorem Cc {a c:Nat×AB} {T:AL}:([a,c]++T).Perm (([a]++(T++[]))++[c]):=by
 rw [List.append_nil]
 exact List.Perm.cons a (List.perm_append_comm (l₁:=[c]))
theorem Fc {A T:AL} {c:Nat×AB}:((A++T)++[c]).Perm ((A++[c])++T):=by
 rw [List.append_assoc,List.append_assoc]
 exact List.Perm.append_left _ List.perm_append_comm
theorem zY:bZ Tryz.prog 22 [] (.imm 1 (aS fy)):=by
 refine aX Tryz.func22 rfl Tryz.ntmps22 rfl fun B=>?_
 repeat' (first|refine go ?_|refine IG a6 EV ?_|refine bG a6 ?_|fail)
 exact IP IB
theorem uF:bZ Tryz.prog 23 [] (.imm 1 (gP eO)):=by
 refine aX Tryz.func23 rfl Tryz.ntmps23 rfl fun B=>?_
 repeat' (first|refine go ?_|refine IG a6 EV ?_|refine bG a6 ?_|fail)
 exact IP IB
theorem ri (k:Nat) (m:MS):(kR s k m).1.length=k:=by
 exact (co.runs (fun i (l:List eB)=>l.length=i) k rfl fun i l _ h=>(co.any _).bnd fun a _=>(co.any _).bnd fun b _=>co.ret (by simp [h])) m
theorem wP (k:Nat) (m:MS):(iC s k m).1.length=k:=by
 exact (co.runs (fun i (l:List eo)=>l.length=i) k rfl fun i l _ h=>(co.any _).bnd fun a _=>co.ret (by simp [h])) m
theorem rK (x k:Nat) (m:MS):(kH s x k m).1.length=k:=by
 exact (co.runs (fun i (l:List (List eo))=>l.length=i) k rfl fun i l _ h=>(co.any _).bnd fun a _=>co.ret (by simp [h])) m
theorem vS (k:Nat) (m:MS):(iZ s k m).1.length=k:=by
 exact (co.runs (fun i (l:List (List ep))=>l.length=i) k rfl fun i l _ h=>(co.any _).bnd fun a _=>(co.any _).bnd fun b _=>co.ret (by simp [h])) m
theorem B7 (k:Nat) (m:MS):(pN s k m).1.length=k:=by
 exact (co.runs (fun i (l:List Int)=>l.length=i) k rfl fun i l _ h=>(co.any _).bnd fun a _=>co.ret (by simp [h])) m
theorem uj (R fn k:Nat) (m:MS):(gJ s R fn k m).1.length=k:=by
 exact (co.runs (fun i (l:List bL)=>l.length=i) k rfl fun i l _ h=>(co.any _).bnd fun a _=>co.ret (by simp [h])) m
theorem vB (n:Int) (k:Nat) (m:MS):(ix s n k m).1.length≤k:=by
 exact (co.runs (fun i (l:List ey)=>l.length≤i) k (Nat.le_refl _) fun i l _ h=>(co.any _).bnd fun a _=>co.ite (fun _=>(co.any _).bnd fun b _=>co.ret (by simp;omega)) fun _=>co.ret (by omega)) m
theorem AN (k:Nat) (m:MS):(nO s k m).1.length≤k:=by
 exact (co.runs (fun i (l:List Int)=>l.length≤i) k (Nat.le_refl _) fun i l _ h=>(co.any _).bnd fun a _=>co.ret (by
  split
  ·simp;omega
  ·omega)) m
theorem vP (n k:Nat) (m:MS):(iA s n k m).1.length≤k:=by
 exact (co.runs (fun i (l:List bX)=>l.length≤i) k (Nat.le_refl _) fun i l _ h=>(co.any _).bnd fun a _=>(co.any _).bnd fun b _=>co.ret (by
  split
  ·simp;omega
  ·omega)) m
abbrev tB (tb:Nat):Nat×AB:=(tb,.box [aP 0,bO,bO,bO,bO,bO,bO,bO,bO] 36)
include hs
set_option maxHeartbeats 32000000 in
theorem BQ:bZ Tryz.prog 21 [.imm 1 (aS s)] (cr (na s)):=by
 refine aX Tryz.func21 rfl Tryz.ntmps21 rfl fun B=>?_
 repeat' (first|refine go ?_|refine IG a6 EV ?_|refine qk (d:=22) fun _=>?_|refine bc a6 fun _=>?_|refine bG a6 ?_|fail)
 rename_i tb b
 refine aK (aM (L':=[eJ b s ⟨aP 0,bO,bO,bO,bO,bO,bO,bO,bO⟩ ⟨0,0⟩,tB tb]) (Jn _)) ?_
 refine aK (bC 0 (cs':=Hq s ⟨aP 0,.vec none 9 [],.vec none 2 [],bO,.vec none 2 [],.vec none 4 [],.vec none 1 [],.vec none 1 [],.vec none 1 []⟩ ⟨0,0⟩) rfl fun σ vs h=>cy (k:=3) (cy (k:=4) (cy (k:=6) (cy (k:=7) (cy (k:=8) (cy (k:=9) (cy (k:=10) h rfl fun v hv=>cO 1 hv) rfl fun v hv=>cO 1 hv) rfl fun v hv=>cO 1 hv) rfl fun v hv=>cO 4 hv) rfl fun v hv=>cO 2 hv) rfl fun v hv=>cO 2 hv) rfl fun v hv=>cO 9 hv) ?_
 refine dh ?_
 have hu:=cI s hs 0 (n:=4) (by omega)
 have hu:0≤(dr s 4 ⟨0,0⟩).1∧(dr s 4 ⟨0,0⟩).1 < 4:=hu
 generalize e1:dr s 4 ⟨0,0⟩=u at hu ⊢
 have hul:(aS mF)[u.1.toNat]?=some [aP (mF.getD u.1.toNat 0)]:=bQ (lu (by simp only [mF,List.length_cons,List.length_nil];omega) 0)
 generalize hU:mF.getD u.1.toNat 0=U at hul
 repeat' (first|refine go ?_|refine IG a6 EV ?_|(apply aV;first|refine aU a6 ?_|refine aN a6 ?_)|(apply aJ;first|refine II 6 a6 0 IF ?_|refine II 6 a6 1 IF ?_|refine II 6 a6 2 IF ?_|refine IH a6 0 IE ?_|refine IH a6 1 IE ?_|refine IH a6 2 IE ?_|refine IH a6 3 IE ?_|fail))
 refine aK (aM (L':=[eJ b s ⟨aP U,.vec none 9 [],.vec none 2 [],bO,.vec none 2 [],.vec none 4 [],.vec none 1 [],.vec none 1 [],.vec none 1 []⟩ u.2,tB tb]) (Jn _)) ?_
 refine dh ?_
 have hk:=cI s hs u.2.a (n:=3) (by omega)
 have hk:0≤(dr s 3 u.2).1∧(dr s 3 u.2).1 < 3:=hk
 generalize e2:dr s 3 u.2=k1 at hk ⊢
 obtain ⟨k,hkk⟩:∃k:Nat,k1.1=k:=⟨k1.1.toNat,by omega⟩
 rw [hkk]
 repeat' (first|refine go ?_|refine am ?_|refine IG a6 EV ?_)
 refine aO [2,3,4] (α:=Nat×Option (Nat×Nat)) (fun x=>[(5,aP x.1)]) (fun x=>x.1≤k) (fun x=>[eJ b s ⟨aP U,.vec none 9 [],.vec none 2 [],bO,.vec none 2 [],.vec x.2 4 ((kR s x.1 k1.2).1.map cC),.vec none 1 [],.vec none 1 [],.vec none 1 []⟩ (kR s x.1 k1.2).2,tB tb]++tok x.2 93 4 ((kR s x.1 k1.2).1.map cC).length) (fun x=>k - x.1) (0,none) rfl ⟨rfl,trivial⟩ (Nat.zero_le _) (fun _ _ h=>h) ?_
 rintro ⟨i,q⟩ hi
 dsimp only at hi ⊢
 have hal:=ri s i k1.2
 have hstep:kR s (i+1) k1.2=(cA (dr s 3) fun a=>cA (dr s 4) fun b=>df ((kR s i k1.2).1++[(⟨l8 ym i,0 - a * 100,0,b * 100⟩:eB)])) (kR s i k1.2).2:=rfl
 try dsimp only [Jr,Jq,Jp,Jk]
 repeat' (first|refine go ?_|refine IG a6 EV ?_)
 refine au rfl (fun h=>?_) (fun h=>?_)
 ·have hil:i < k:=by have:=Jy h;omega
  generalize kR s i k1.2=A at hal hstep ⊢
  have halm:(A.1.map cC).length=A.1.length:=Jt ..
  repeat' (first|refine go ?_|refine am ?_)
  refine br 15 [(0,.v),(1,.v),(2,.v),(3,.v),(4,.v),(5,.v),(6,.v),(10,.v),(7,.e),(8,.v),(9,.v),(11,.e),(12,.v),(13,.v)] (some (14,.box _ 93)) ?_ ⟨_,rfl,rfl,fun _ _ _=>ga (eA a6 rfl) rfl⟩ rfl (by kernel_rfl) (by kernel_rfl) (by kernel_rfl) mixed (by kernel_rfl) rfl
  repeat' (first|refine aC ?_|refine aY a6 ?_|(apply fk;refine gF ?_)|fail)
  refine B9 a6 ?_
  rw [uv i (by omega)]
  repeat' (first|refine aC ?_|refine dU a6 ?_|fail)
  refine xk a6 ?_
  rw [xy i (by omega)]
  repeat' (first|refine aC ?_|fail)
  refine dL (hs:=Nat.le_of_ble_eq_true rfl) ?_
  rw [yq]
  repeat' (first|refine aC ?_|refine aY a6 ?_|fail)
  refine sj ?_
  have ha:=cI s hs A.2.a (n:=3) (by omega)
  have ha:0≤(dr s 3 A.2).1∧(dr s 3 A.2).1 < 3:=ha
  unfold cA at hstep
  generalize dr s 3 A.2=a at ha hstep ⊢
  dsimp only at hstep
  repeat' (first|refine aC ?_|(apply fk;refine gF ?_)|fail)
  refine sj ?_
  have hc:=cI s hs a.2.a (n:=4) (by omega)
  have hc:0≤(dr s 4 a.2).1∧(dr s 4 a.2).1 < 4:=hc
  generalize dr s 4 a.2=c at hc hstep ⊢
  try dsimp only [df] at hstep
  repeat' (first|refine aC ?_|refine aY a6 ?_|(apply fk;refine gF ?_)|fail)
  refine ji [2,3,4,5,6,52] (fun _=>_) (fun _=>rfl) rfl fun _=>?_
  rename_i ab
  refine aK (aM (Fc (A:=[_,_]))) ?_
  repeat' (first|refine go ?_|(apply aJ;first|refine II 6 a6 0 IF ?_|refine II 6 a6 1 IF ?_|refine II 6 a6 2 IF ?_|refine IH a6 0 IE ?_|refine IH a6 1 IE ?_|refine IH a6 2 IE ?_|refine IH a6 3 IE ?_|fail))
  refine br 9 [(0,.v),(1,.v),(2,.v),(3,.v),(4,.v),(5,.l),(6,.v),(7,.v),(8,.e)] none ?_ trivial rfl (by kernel_rfl) (by kernel_rfl) (by kernel_rfl) mixed (by kernel_rfl) rfl
  repeat' (first|refine aC ?_|refine aY a6 ?_|refine dU a6 ?_|refine dg a6 0 rfl rfl rfl rfl (by first|trivial|rfl) ?_)
  refine eI a6 _ rfl rfl rfl rfl (List.perm_append_comm (l₁:=[_,_])) (by simp;omega) (by simp;omega) (by first | trivial | rfl) fun q'=>?_
  refine IQ [2,3,4,5,53,61] EV ?_
  refine aK (aM (List.perm_append_comm (l₂:=[_,_]))) ?_
  repeat' (first|refine go ?_|refine IG a6 EV ?_|(apply aW;refine aT ?_)|(apply aJ;first|refine II 6 a6 0 IF ?_|refine II 6 a6 1 IF ?_|refine II 6 a6 2 IF ?_|refine IH a6 0 IE ?_|refine IH a6 1 IE ?_|refine IH a6 2 IE ?_|refine IH a6 3 IE ?_|fail))
  exact aB (i+1,q') rfl ⟨by rw [Jv];rfl,trivial⟩ (by dsimp only;omega) (by dsimp only;omega) (fun _ _ h=>by dsimp only;rw [hstep];dsimp only;rw [List.map_append];exact h)
 have hil:i=k:=by have:=Jx h;omega
 subst hil
 clear hstep
 have hal:=ri s i k1.2
 generalize e3:kR s i k1.2=A at hal ⊢
 repeat' (first|refine go ?_|refine IG a6 EV ?_)
 refine bN (bC 0 rfl fun σ vs h=>cy (k:=7) (c':= .imm 4 (A.1.map cC)) h rfl fun v hv=>VR.im hv) ?_
 refine bN (bM (L':=[eJ b s ⟨aP U,.vec none 9 [],.vec none 2 [],bO,.vec none 2 [],.imm 4 (A.1.map cC),.vec none 1 [],.vec none 1 [],.vec none 1 []⟩ A.2,tB tb]) (List.Sublist.cons_cons _ (List.Sublist.cons_cons _ (List.nil_sublist _)))) ?_
 refine sd [2,3,4] ([eJ b s ⟨aP U,.vec none 9 [],.vec none 2 [],bO,.vec none 2 [],.imm 4 (A.1.map cC),.imm 1 ((ge s i A.2).1.map bI),.vec none 1 [],.vec none 1 []⟩ (ge s i A.2).2,tB tb]) rfl (fun Q' K=>?_) ?_
 ·refine au rfl (fun h=>?_) (fun h=>?_)
  ·have hi0:¬i=0:=by have:=Jy h;omega
   repeat' (first|refine go ?_|refine IG a6 EV ?_)
   refine dh ?_
   have hn:=cI s hs A.2.a (n:=4) (by omega)
   have hn:0≤(dr s 4 A.2).1∧(dr s 4 A.2).1 < 4:=hn
   generalize e4:dr s 4 A.2=n1 at hn ⊢
   obtain ⟨n,hnn⟩:∃k:Nat,n1.1=k:=⟨n1.1.toNat,by omega⟩
   have hv:ge s i A.2=kH s i n n1.2:=by
    unfold ge
    rw [if_neg hi0]
    unfold cA
    rw [e4]
    dsimp only
    rw [hnn,Int.toNat_natCast]
   rw [hv] at K
   rw [hnn]
   repeat' (first|refine go ?_|refine am ?_|refine IG a6 EV ?_)
   refine aO [2,3,4,7] (α:=Nat×Option (Nat×Nat)) (fun x=>[(8,aP x.1)]) (fun x=>x.1≤n) (fun x=>[eJ b s ⟨aP U,.vec none 9 [],.vec none 2 [],bO,.vec none 2 [],.imm 4 (A.1.map cC),.vec x.2 1 ((kH s i x.1 n1.2).1.map bI),.vec none 1 [],.vec none 1 []⟩ (kH s i x.1 n1.2).2,tB tb]++tok x.2 98 1 ((kH s i x.1 n1.2).1.map bI).length) (fun x=>n - x.1) (0,none) rfl ⟨rfl,trivial⟩ (Nat.zero_le _) (fun _ _ h=>h) ?_
   rintro ⟨j,q⟩ hj
   dsimp only at hj ⊢
   have hrl:=rK s i j n1.2
   have hstep:kH s i (j+1) n1.2=((kH s i j n1.2).1++[(iC s i (kH s i j n1.2).2).1],(iC s i (kH s i j n1.2).2).2):=rfl
   try dsimp only [Jr,Jq,Jp,Jk]
   repeat' (first|refine go ?_|refine IG a6 EV ?_)
   refine au rfl (fun h=>?_) (fun h=>?_)
   ·have hjn:j < n:=by have:=Jy h;omega
    generalize kH s i j n1.2=Rg at hrl hstep ⊢
    have hrlm:(Rg.1.map bI).length=Rg.1.length:=Jt ..
    repeat' (first|refine go ?_|refine am ?_|refine IG a6 EV ?_|refine bc a6 fun _=>?_|fail)
    rename_i rb
    refine bN (bC 0 (cs':=[.vec none 3 []]) rfl fun σ vs h=>cy (k:=0) h rfl fun v hv=>cO 3 hv) ?_
    refine bN (aM (List.perm_middle (l₁:=[_,_])).symm) ?_
    refine aO [2,3,4,7,8,9] (α:=Nat×Option (Nat×Nat)) (fun x=>[(10,aP x.1)]) (fun x=>x.1≤i) (fun x=>[eJ b s ⟨aP U,.vec none 9 [],.vec none 2 [],bO,.vec none 2 [],.imm 4 (A.1.map cC),.vec q 1 (Rg.1.map bI),.vec none 1 [],.vec none 1 []⟩ (iC s x.1 Rg.2).2,tB tb,(rb,.box [.vec x.2 3 ((iC s x.1 Rg.2).1.map fX)] 98)]++(tok x.2 95 3 ((iC s x.1 Rg.2).1.map fX).length++tok q 98 1 (Rg.1.map bI).length)) (fun x=>i - x.1) (0,none) rfl ⟨rfl,trivial⟩ (Nat.zero_le _) (fun _ _ h=>h) ?_
    rintro ⟨a,qt⟩ ha
    dsimp only at ha ⊢
    have htl:=wP s a Rg.2
    have hstt:iC s (a+1) Rg.2=(cA (dr s 5) fun z=>df ((iC s a Rg.2).1++[kA.getD z.toNat ⟨0,0,0⟩])) (iC s a Rg.2).2:=rfl
    try dsimp only [Jr,Jq,Jp,Jk]
    repeat' (first|refine go ?_|refine IG a6 EV ?_)
    refine au rfl (fun h=>?_) (fun h=>?_)
    ·have hai:a < i:=by have:=Jy h;omega
     generalize iC s a Rg.2=Tn at htl hstt ⊢
     have htlm:(Tn.1.map fX).length=Tn.1.length:=Jt ..
     repeat' (first|refine go ?_|refine am ?_)
     refine dS [.cell (rb,0,.vec qt 3 (Tn.1.map fX))] 13 [(0,.v),(1,.k),(2,.v),(3,.v),(4,.v),(5,.v),(6,.v),(7,.v),(8,.v),(9,.f),(10,.v),(11,.v),(12,.v)] none ?_ trivial rfl (by kernel_rfl) (by kernel_rfl) (by kernel_rfl) mixed (by kernel_rfl) rfl
     repeat' (first|refine aC ?_|refine aY a6 ?_|fail)
     refine eR a6 0 rfl rfl rfl (cj 2 rfl rfl cu) (by first | trivial | rfl) ?_
     repeat' (first|refine aC ?_|refine aY a6 ?_|refine dU a6 ?_|fail)
     refine fj (cj 2 rfl rfl cu) ?_
     have hz:=cI s hs Tn.2.a (n:=5) (by omega)
     have hz:0≤(dr s 5 Tn.2).1∧(dr s 5 Tn.2).1 < 5:=hz
     unfold cA at hstt
     generalize dr s 5 Tn.2=z at hz hstt ⊢
     dsimp only [df] at hstt
     have hzt:(kA.map fX)[z.1.toNat]?=some (fX (kA.getD z.1.toNat ⟨0,0,0⟩)):=by
      rw [List.getElem?_map,lu (l:=kA) (i:=z.1.toNat) (by simp only [kA,List.length_cons,List.length_nil];omega) ⟨0,0,0⟩]
      rfl
     generalize kA.getD z.1.toNat ⟨0,0,0⟩=tn at hzt hstt
     repeat' (first|refine aC ?_|refine aY a6 ?_|(apply bS;refine ce a6 ?_)|refine dU a6 ?_|fail)
     refine IQ [2,3,4,7,8,9,10,80,91] EV ?_
     repeat' (first|fail)
     refine IS a6 _ IC (fc (A:=[_,_,_])) (by simp;omega) (by simp;omega) rfl fun q'=>?_
     refine aK (aM (fc (A:=[_,_,_])).symm) ?_
     repeat' (first|refine go ?_|refine IG a6 EV ?_|(apply aW;refine aT ?_)|(apply aJ;first|refine II 6 a6 0 IF ?_|refine II 6 a6 1 IF ?_|refine II 6 a6 2 IF ?_|refine IH a6 0 IE ?_|refine IH a6 1 IE ?_|refine IH a6 2 IE ?_|refine IH a6 3 IE ?_|fail))
     exact aB (a+1,q') rfl ⟨by rw [Jv];rfl,trivial⟩ (by dsimp only;omega) (by dsimp only;omega) (fun _ _ h=>by dsimp only;rw [hstt];dsimp only;rw [List.map_append];exact h)
    have hai:a=i:=by have:=Jx h;omega
    subst hai
    clear hstt htl
    generalize iC s a Rg.2=Tn at hstep ⊢
    repeat' (first|refine go ?_|fail)
    refine bN (bC 2 (cs':=[.imm 3 (Tn.1.map fX)]) rfl fun σ vs h=>cy (k:=0) h rfl fun v hv=>VR.im hv) ?_
    refine bN (bM (L':=[eJ b s ⟨aP U,.vec none 9 [],.vec none 2 [],bO,.vec none 2 [],.imm 4 (A.1.map cC),.vec q 1 (Rg.1.map bI),.vec none 1 [],.vec none 1 []⟩ Tn.2,tB tb,(rb,.box (bI Tn.1) 98)]++tok q 98 1 (Rg.1.map bI).length) (List.Sublist.cons_cons _ (List.Sublist.cons_cons _ (List.Sublist.cons_cons _ (List.sublist_append_right _ _))))) ?_
    refine br 9 [(0,.v),(1,.v),(2,.v),(3,.v),(4,.v),(5,.l),(6,.l),(7,.v),(8,.e)] none ?_ trivial rfl (by kernel_rfl) (by kernel_rfl) (by kernel_rfl) mixed (by kernel_rfl) rfl
    repeat' (first|refine aC ?_|refine aY a6 ?_|refine dg a6 0 rfl rfl rfl rfl (by first|trivial|rfl) ?_)
    refine xm a6 2 rfl rfl rfl rfl (by first | trivial | rfl) ?_
    repeat' (first|refine aC ?_|refine dU a6 ?_|fail)
    refine eI a6 _ rfl rfl rfl rfl (List.perm_append_comm (l₁:=[_,_,_])) (by simp;omega) (by simp;omega) (by first | trivial | rfl) fun q'=>?_
    refine IQ [2,3,4,7,8,94,102] EV ?_
    refine aK (aM (List.perm_append_comm (l₂:=[_,_,_]))) ?_
    repeat' (first|refine go ?_|refine IG a6 EV ?_|(apply aW;refine aT ?_)|(apply aJ;first|refine II 6 a6 0 IF ?_|refine II 6 a6 1 IF ?_|refine II 6 a6 2 IF ?_|refine IH a6 0 IE ?_|refine IH a6 1 IE ?_|refine IH a6 2 IE ?_|refine IH a6 3 IE ?_|fail))
    exact aB (j+1,q') rfl ⟨by rw [Jv];rfl,trivial⟩ (by dsimp only;omega) (by dsimp only;omega) (fun _ _ h=>by dsimp only;rw [hstep];dsimp only;rw [List.map_append];exact h.sublist (List.Sublist.cons_cons _ (List.Sublist.cons_cons _ (List.sublist_cons_self ..))))
   have hjn:j=n:=by have:=Jx h;omega
   subst hjn
   generalize kH s i j n1.2=Rg at K ⊢
   repeat' (first|refine go ?_|fail)
   refine ba (bC 0 rfl fun σ vs h=>cy (k:=8) (c':= .imm 1 (Rg.1.map bI)) h rfl fun v hv=>VR.im hv) ?_
   refine ba (bM (L':=[eJ b s ⟨aP U,.vec none 9 [],.vec none 2 [],bO,.vec none 2 [],.imm 4 (A.1.map cC),.imm 1 (Rg.1.map bI),.vec none 1 [],.vec none 1 []⟩ Rg.2,tB tb]) (List.Sublist.cons_cons _ (List.Sublist.cons_cons _ (List.nil_sublist _)))) ?_
   exact K _ rfl
  ·have hi0:i=0:=by have:=Jx h;omega
   have hv:ge s i A.2=([],A.2):=by
    unfold ge
    rw [if_pos hi0]
    rfl
   rw [hv] at K
   repeat' (first|refine go ?_|fail)
   refine ba (bC 0 rfl fun σ vs h=>cy (k:=8) (c':= .imm 1 []) h rfl fun v hv=>VR.im hv) ?_
   exact K _ rfl
 generalize e4:ge s i A.2=rg
 repeat' (first|refine go ?_|refine IG a6 EV ?_)
 refine dh ?_
 have hk2:=cI s hs rg.2.a (n:=3) (by omega)
 have hk2:0≤(dr s 3 rg.2).1∧(dr s 3 rg.2).1 < 3:=hk2
 generalize e5:dr s 3 rg.2=k2 at hk2 ⊢
 obtain ⟨k',hkk2⟩:∃k:Nat,k2.1=k:=⟨k2.1.toNat,by omega⟩
 rw [hkk2]
 repeat' (first|refine go ?_|refine am ?_|refine IG a6 EV ?_)
 refine aO [2,3,4] (α:=Nat×Option (Nat×Nat)) (fun x=>[(11,aP x.1)]) (fun x=>x.1≤k') (fun x=>[eJ b s ⟨aP U,.vec none 9 [],.vec none 2 [],bO,.vec none 2 [],.imm 4 (A.1.map cC),.imm 1 (rg.1.map bI),.vec x.2 1 ((iZ s x.1 k2.2).1.map cL),.vec none 1 []⟩ (iZ s x.1 k2.2).2,tB tb]++tok x.2 61 1 ((iZ s x.1 k2.2).1.map cL).length) (fun x=>k' - x.1) (0,none) rfl ⟨rfl,trivial⟩ (Nat.zero_le _) (fun _ _ h=>h) ?_
 rintro ⟨j,q2⟩ hj
 dsimp only at hj ⊢
 have hfl:=vS s j k2.2
 have hstep:iZ s (j+1) k2.2=(cA (ip 0) fun _=>cA (n6 s 6 j 4) fun h=>df ((iZ s j k2.2).1++[h])) (iZ s j k2.2).2:=rfl
 try dsimp only [Jr,Jq,Jp,Jk]
 repeat' (first|refine go ?_|refine IG a6 EV ?_)
 refine au rfl (fun h=>?_) (fun h=>?_)
 ·have hjk:j < k':=by have:=Jy h;omega
  generalize iZ s j k2.2=Fu at hfl hstep ⊢
  have hflm:(Fu.1.map cL).length=Fu.1.length:=Jt ..
  unfold cA at hstep
  repeat' (first|refine go ?_|refine am ?_|refine IG a6 EV ?_|(apply aJ;first|refine II 6 a6 0 IF ?_|refine II 6 a6 1 IF ?_|refine II 6 a6 2 IF ?_|refine IH a6 0 IE ?_|refine IH a6 1 IE ?_|refine IH a6 2 IE ?_|refine IH a6 3 IE ?_|fail))
  refine bN (aM (L':=[eJ b s ⟨aP U,.vec none 9 [],.vec none 2 [],bO,.vec none 2 [],.imm 4 (A.1.map cC),.imm 1 (rg.1.map bI),.vec q2 1 (Fu.1.map cL),.vec none 1 []⟩ (ip 0 Fu.2).2,tB tb]++tok q2 61 1 (Fu.1.map cL).length) (Jn _)) ?_
  generalize (ip 0 Fu.2).2=w at hstep ⊢
  dsimp only at hstep
  refine dS [.cell (b,9,.vec q2 1 (Fu.1.map cL))] 11 [(0,.v),(1,.v),(2,.v),(3,.v),(4,.v),(5,.k),(6,.v),(7,.v),(8,.f),(9,.v),(10,.e)] none ?_ trivial rfl (by kernel_rfl) (by kernel_rfl) (by kernel_rfl) mixed (by kernel_rfl) rfl
  repeat' (first|refine aC ?_|refine aY a6 ?_|fail)
  refine eR a6 0 rfl rfl rfl (cj 0 rfl rfl cu) (by first | trivial | rfl) ?_
  repeat' (first|refine aC ?_|refine aY a6 ?_|fail)
  refine rm (rE s hs _ (n:=6) (fn:=(j:Int)) (most:=4) (by omega) (by omega) (by omega)) (cj 0 rfl rfl cu) ?_
  generalize n6 s 6 j 4 w=hi at hstep ⊢
  try dsimp only [df] at hstep
  unfold jE
  repeat' (first|refine aC ?_|refine dU a6 ?_|fail)
  refine eI a6 _ rfl rfl rfl rfl (List.perm_append_comm (l₁:=[_,_])) (by simp;omega) (by simp;omega) (by first | trivial | rfl) fun q'=>?_
  refine IQ [2,3,4,11,116,126] EV ?_
  refine aK (aM (List.perm_append_comm (l₂:=[_,_]))) ?_
  repeat' (first|refine go ?_|refine IG a6 EV ?_|(apply aW;refine aT ?_)|(apply aJ;first|refine II 6 a6 0 IF ?_|refine II 6 a6 1 IF ?_|refine II 6 a6 2 IF ?_|refine IH a6 0 IE ?_|refine IH a6 1 IE ?_|refine IH a6 2 IE ?_|refine IH a6 3 IE ?_|fail))
  exact aB (j+1,q') rfl ⟨by rw [Jv];rfl,trivial⟩ (by dsimp only;omega) (by dsimp only;omega) (fun _ _ h=>by dsimp only;rw [hstep];dsimp only;rw [List.map_append];exact h)
 have hjk:j=k':=by have:=Jx h;omega
 subst hjk
 clear hstep
 generalize e6:iZ s j k2.2=fu at hfl ⊢
 repeat' (first|refine go ?_|refine IG a6 EV ?_)
 refine aK (bC 0 rfl fun σ vs h=>cy (k:=9) (c':= .imm 1 (fu.1.map cL)) h rfl fun v hv=>VR.im hv) ?_
 refine aK (bM (L':=[eJ b s ⟨aP U,.vec none 9 [],.vec none 2 [],bO,.vec none 2 [],.imm 4 (A.1.map cC),.imm 1 (rg.1.map bI),.imm 1 (fu.1.map cL),.vec none 1 []⟩ fu.2,tB tb]) (List.Sublist.cons_cons _ (List.Sublist.cons_cons _ (List.nil_sublist _)))) ?_
 refine dh ?_
 have hk3:=cI s hs fu.2.a (n:=4) (by omega)
 have hk3:0≤(dr s 4 fu.2).1∧(dr s 4 fu.2).1 < 4:=hk3
 generalize e7:dr s 4 fu.2=k3 at hk3 ⊢
 obtain ⟨k'',hkk3⟩:∃k:Nat,k3.1=k:=⟨k3.1.toNat,by omega⟩
 rw [hkk3]
 repeat' (first|refine go ?_|refine am ?_|refine IG a6 EV ?_)
 refine aO [2,3,4] (α:=Nat×Option (Nat×Nat)) (fun x=>[(12,aP x.1)]) (fun x=>x.1≤k'') (fun x=>[eJ b s ⟨aP U,.vec none 9 [],.vec none 2 [],bO,.vec none 2 [],.imm 4 (A.1.map cC),.imm 1 (rg.1.map bI),.imm 1 (fu.1.map cL),.vec x.2 1 (aS (pN s x.1 k3.2).1)⟩ (pN s x.1 k3.2).2,tB tb]++tok x.2 3 1 (aS (pN s x.1 k3.2).1).length) (fun x=>k'' - x.1) (0,none) rfl ⟨rfl,trivial⟩ (Nat.zero_le _) (fun _ _ h=>h) ?_
 rintro ⟨jc,q3⟩ hjc
 dsimp only at hjc ⊢
 have hcl:=B7 s jc k3.2
 have hstep:pN s (jc+1) k3.2=(cA (dr s 500) fun z=>df ((pN s jc k3.2).1++[z - 100])) (pN s jc k3.2).2:=rfl
 try dsimp only [Jr,Jq,Jp,Jk]
 repeat' (first|refine go ?_|refine IG a6 EV ?_)
 refine au rfl (fun h=>?_) (fun h=>?_)
 ·have hjk:jc < k'':=by have:=Jy h;omega
  generalize pN s jc k3.2=C at hcl hstep ⊢
  have hclm:(aS C.1).length=C.1.length:=aF _
  unfold cA at hstep
  repeat' (first|refine go ?_|refine am ?_)
  refine dS [.cell (b,10,.vec q3 1 (aS C.1))] 11 [(0,.v),(1,.v),(2,.v),(3,.v),(4,.v),(5,.k),(6,.v),(7,.f),(8,.v),(9,.v),(10,.e)] none ?_ trivial rfl (by kernel_rfl) (by kernel_rfl) (by kernel_rfl) mixed (by kernel_rfl) rfl
  repeat' (first|refine aC ?_|refine aY a6 ?_|fail)
  refine eR a6 0 rfl rfl rfl (cj 0 rfl rfl cu) (by first | trivial | rfl) ?_
  repeat' (first|refine aC ?_|refine aY a6 ?_|fail)
  refine fj (cj 0 rfl rfl cu) ?_
  have hz:=cI s hs C.2.a (n:=500) (by omega)
  have hz:0≤(dr s 500 C.2).1∧(dr s 500 C.2).1 < 500:=hz
  generalize dr s 500 C.2=z at hz hstep ⊢
  try dsimp only [df] at hstep
  repeat' (first|refine aC ?_|(apply fk;refine gF ?_)|refine dU a6 ?_|fail)
  refine eI a6 _ rfl rfl rfl rfl (List.perm_append_comm (l₁:=[_,_])) (by simp [aF];omega) (by simp [aF];omega) (by first | trivial | rfl) fun q'=>?_
  refine IQ [2,3,4,12,137,147] EV ?_
  refine aK (aM (List.perm_append_comm (l₂:=[_,_]))) ?_
  repeat' (first|refine go ?_|refine IG a6 EV ?_|(apply aW;refine aT ?_)|(apply aJ;first|refine II 6 a6 0 IF ?_|refine II 6 a6 1 IF ?_|refine II 6 a6 2 IF ?_|refine IH a6 0 IE ?_|refine IH a6 1 IE ?_|refine IH a6 2 IE ?_|refine IH a6 3 IE ?_|fail))
  exact aB (jc+1,q') rfl ⟨by rw [Jv];rfl,trivial⟩ (by dsimp only;omega) (by dsimp only;omega) (fun _ _ h=>by dsimp only;rw [hstep];dsimp only;rw [show aS (C.1++[z.1 - 100])=aS C.1++[[aP (z.1 - 100)]] from List.map_append ..];exact h)
 have hjk:jc=k'':=by have:=Jx h;omega
 subst hjk
 clear hstep
 generalize e8:pN s jc k3.2=cv at hcl ⊢
 repeat' (first|refine go ?_|refine IG a6 EV ?_)
 refine aK (bC 0 rfl fun σ vs h=>cy (k:=10) (c':= .imm 1 (aS cv.1)) h rfl fun v hv=>VR.im hv) ?_
 refine aK (bM (L':=[eJ b s ⟨aP U,.vec none 9 [],.vec none 2 [],bO,.vec none 2 [],.imm 4 (A.1.map cC),.imm 1 (rg.1.map bI),.imm 1 (fu.1.map cL),.imm 1 (aS cv.1)⟩ cv.2,tB tb]) (List.Sublist.cons_cons _ (List.Sublist.cons_cons _ (List.nil_sublist _)))) ?_
 refine dh ?_
 have hk4:=cI s hs cv.2.a (n:=9) (by omega)
 have hk4:0≤(dr s 9 cv.2).1∧(dr s 9 cv.2).1 < 9:=hk4
 generalize e9:dr s 9 cv.2=k4 at hk4 ⊢
 obtain ⟨n,hkk4⟩:∃k:Nat,2+k4.1=k:=⟨(2+k4.1).toNat,by omega⟩
 repeat' (first|refine go ?_|refine am ?_|refine IG a6 EV ?_|(apply aW;refine aT ?_)|fail)
 rw [hkk4]
 have hrgl:(rg.1.map bI).length=rg.1.length:=Jt ..
 have hful:(fu.1.map cL).length=fu.1.length:=Jt ..
 have hrg3:rg.1.length≤1000:=by
  have hR:co (ge s A.1.length) fun l=>l.length≤3:=co.ite (fun _=>co.ret (Nat.zero_le _)) fun _=>(dA s (by omega)).bnd fun n hn m=>by rw [rK];omega
  have:=hR A.2
  rw [hal] at this
  rw [←e4]
  omega
 refine aO [2,3,4] (α:=Nat×Option (Nat×Nat)) (fun x=>[(13,aP x.1)]) (fun x=>x.1≤n) (fun x=>[eJ b s ⟨aP U,.vec x.2 9 ((gJ s rg.1.length fu.1.length x.1 k4.2).1.map bh),.vec none 2 [],bO,.vec none 2 [],.imm 4 (A.1.map cC),.imm 1 (rg.1.map bI),.imm 1 (fu.1.map cL),.imm 1 (aS cv.1)⟩ (gJ s rg.1.length fu.1.length x.1 k4.2).2,tB tb]++tok x.2 63 9 ((gJ s rg.1.length fu.1.length x.1 k4.2).1.map bh).length) (fun x=>n - x.1) (0,none) rfl ⟨rfl,trivial⟩ (Nat.zero_le _) (fun _ _ h=>h) ?_
 rintro ⟨jg,q4⟩ hjg
 dsimp only at hjg ⊢
 have hgl:=uj s rg.1.length fu.1.length jg k4.2
 have hstep:gJ s rg.1.length fu.1.length (jg+1) k4.2=(cA (km s rg.1.length fu.1.length jg) fun g=>df ((gJ s rg.1.length fu.1.length jg k4.2).1++[g])) (gJ s rg.1.length fu.1.length jg k4.2).2:=rfl
 try dsimp only [Jr,Jq,Jp,Jk]
 repeat' (first|refine go ?_|refine IG a6 EV ?_)
 refine au rfl (fun h=>?_) (fun h=>?_)
 ·have hjn:jg < n:=by have:=Jy h;omega
  generalize gJ s rg.1.length fu.1.length jg k4.2=Gs at hgl hstep ⊢
  have hglm:(Gs.1.map bh).length=Gs.1.length:=Jt ..
  unfold cA at hstep
  repeat' (first|refine go ?_|refine am ?_|refine IG a6 EV ?_)
  refine bn ([eJ b s ⟨aP U,.vec q4 9 (Gs.1.map bh),.vec none 2 [],bO,.vec none 2 [],.imm 4 (A.1.map cC),.imm 1 (rg.1.map bI),.imm 1 (fu.1.map cL),.imm 1 (aS cv.1)⟩ Gs.2]++(tok q4 63 9 (Gs.1.map bh).length++[])) [tB tb] (Bu s hs ⟨aP U,.vec q4 9 (Gs.1.map bh),.vec none 2 [],bO,.vec none 2 [],.imm 4 (A.1.map cC),.imm 1 (rg.1.map bI),.imm 1 (fu.1.map cL),.imm 1 (aS cv.1)⟩ rfl rfl rfl rg.1.length fu.1.length jg hrgl hful (by omega) (by omega) (by omega) (by omega) b Gs.2) rfl rfl Cc rfl fun c L1 ⟨q',hL1⟩=>?_
  subst hL1
  refine aK (aM Cc.symm) ?_
  generalize km s rg.1.length fu.1.length jg Gs.2=g at hstep ⊢
  try dsimp only [df] at hstep
  repeat' (first|refine go ?_|refine IG a6 EV ?_|(apply aW;refine aT ?_)|fail)
  exact aB (jg+1,q') rfl ⟨by rw [Jv];rfl,trivial⟩ (by dsimp only;omega) (by dsimp only;omega) (fun _ _ h=>by dsimp only;rw [hstep];dsimp only;rw [List.map_append];exact h)
 have hjn:jg=n:=by have:=Jx h;omega
 subst hjn
 clear hstep
 generalize e10:gJ s rg.1.length fu.1.length jg k4.2=gl at hgl ⊢
 have hglm:(gl.1.map bh).length=gl.1.length:=Jt ..
 repeat' (first|refine go ?_|fail)
 refine bq (hc:=⟨zY⟩) ?_
 refine aK (bM (L':=[eJ b s ⟨aP U,.vec q4 9 (gl.1.map bh),.vec none 2 [],bO,.vec none 2 [],.imm 4 (A.1.map cC),.imm 1 (rg.1.map bI),.imm 1 (fu.1.map cL),.imm 1 (aS cv.1)⟩ gl.2,tB tb]) (List.Sublist.cons_cons _ (List.Sublist.cons_cons _ (List.nil_sublist _)))) ?_
 repeat' (first|refine go ?_|refine am ?_|refine IG a6 EV ?_)
 have hr16:(aS fy).length=16:=rfl
 refine aO [2,3,14] (α:=Nat×Option (Nat×Nat)) (fun x=>[(15,aP x.1)]) (fun x=>x.1≤16) (fun x=>[eJ b s ⟨aP U,.vec q4 9 (gl.1.map bh),.vec x.2 2 ((ix s gl.1.length x.1 gl.2).1.map cm),bO,.vec none 2 [],.imm 4 (A.1.map cC),.imm 1 (rg.1.map bI),.imm 1 (fu.1.map cL),.imm 1 (aS cv.1)⟩ (ix s gl.1.length x.1 gl.2).2,tB tb]++tok x.2 68 2 ((ix s gl.1.length x.1 gl.2).1.map cm).length) (fun x=>16 - x.1) (0,none) rfl ⟨rfl,trivial⟩ (Nat.zero_le _) (fun _ _ h=>h) ?_
 rintro ⟨jr,q5⟩ hjr
 dsimp only at hjr ⊢
 have hcl2:=vB s gl.1.length jr gl.2
 have hstep:ix s gl.1.length (jr+1) gl.2=(cA (dr s 4) fun z=>if 0 < z then cA (dr s gl.1.length) fun g=>df ((ix s gl.1.length jr gl.2).1++[(⟨fy.getD jr 0,g⟩:ey)]) else df (ix s gl.1.length jr gl.2).1) (ix s gl.1.length jr gl.2).2:=rfl
 try dsimp only [Jr,Jq,Jp,Jk]
 repeat' (first|refine go ?_|refine IG a6 EV ?_)
 refine au rfl (fun h=>?_) (fun h=>?_)
 ·have hj16:jr < 16:=by have:=Jy h;rw [hr16] at this;omega
  have hrn:(aS fy)[jr]?=some [aP (fy.getD jr 0)]:=bQ (lu hj16 0)
  generalize fy.getD jr 0=rn at hrn hstep
  generalize ix s gl.1.length jr gl.2=Ch at hcl2 hstep ⊢
  have hchm:(Ch.1.map cm).length=Ch.1.length:=Jt ..
  unfold cA at hstep
  repeat' (first|refine go ?_|refine am ?_|refine IG a6 EV ?_)
  refine dh ?_
  generalize dr s 4 Ch.2=z at hstep ⊢
  dsimp only at hstep
  repeat' (first|refine go ?_|refine IG a6 EV ?_)
  refine au rfl (fun hz=>?_) (fun hz=>?_)
  ·rw [if_pos (Jy hz)] at hstep
   repeat' (first|fail)
   refine dS [.cell (b,4,.vec q5 2 (Ch.1.map cm))] 21 [(0,.v),(1,.v),(2,.v),(3,.v),(4,.v),(5,.k),(6,.v),(7,.v),(8,.v),(9,.v),(10,.v),(11,.v),(12,.v),(13,.v),(14,.v),(15,.l),(16,.v),(17,.f),(18,.v),(19,.v),(20,.e)] none ?_ trivial rfl (by kernel_rfl) (by kernel_rfl) (by kernel_rfl) mixed (by kernel_rfl) rfl
   repeat' (first|refine aC ?_|refine aY a6 ?_|fail)
   refine eR a6 0 rfl rfl rfl (cj 0 rfl rfl cu) (by first | trivial | rfl) ?_
   repeat' (first|refine aC ?_|refine aY a6 ?_|(apply bS;refine ce a6 ?_)|refine dg a6 0 rfl rfl rfl rfl (by first|trivial|rfl) ?_)
   rw [hglm]
   refine fj (cj 0 rfl rfl cu) ?_
   generalize dr s gl.1.length z.2=g at hstep ⊢
   try dsimp only [df] at hstep
   repeat' (first|refine aC ?_|refine aY a6 ?_|refine dU a6 ?_|fail)
   refine eI a6 _ rfl rfl rfl rfl (List.perm_append_comm (l₁:=[_,_])) (by simp;omega) (by simp;omega) (by first | trivial | rfl) fun q'=>?_
   refine IQ [2,3,14,15,172,192] EV ?_
   refine aK (aM (List.perm_append_comm (l₂:=[_,_]))) ?_
   repeat' (first|refine go ?_|refine IG a6 EV ?_|(apply aW;refine aT ?_)|(apply aJ;first|refine II 6 a6 0 IF ?_|refine II 6 a6 1 IF ?_|refine II 6 a6 2 IF ?_|refine IH a6 0 IE ?_|refine IH a6 1 IE ?_|refine IH a6 2 IE ?_|refine IH a6 3 IE ?_|fail))
   exact aB (jr+1,q') rfl ⟨by rw [Jv];rfl,trivial⟩ (by dsimp only;omega) (by dsimp only;omega) (fun _ _ h=>by dsimp only;rw [hstep];dsimp only;rw [List.map_append];exact h)
  ·rw [if_neg (Jx hz)] at hstep
   try dsimp only [df] at hstep
   repeat' (first|refine go ?_|refine IG a6 EV ?_|(apply aW;refine aT ?_)|fail)
   exact aB (jr+1,q5) rfl ⟨by rw [Jv];rfl,trivial⟩ (by dsimp only;omega) (by dsimp only;omega) (fun _ _ h=>by dsimp only;rw [hstep];exact h)
 have hj16:jr=16:=by have:=Jx h;rw [hr16] at this;omega
 subst hj16
 clear hstep
 generalize e11:ix s gl.1.length 16 gl.2=ch at hcl2 ⊢
 repeat' (first|refine go ?_|refine IG a6 EV ?_)
 refine aK (bC 0 rfl fun σ vs h=>cy (k:=4) (c':= .imm 2 (ch.1.map cm)) h rfl fun v hv=>VR.im hv) ?_
 refine aK (bM (L':=[eJ b s ⟨aP U,.vec q4 9 (gl.1.map bh),.imm 2 (ch.1.map cm),bO,.vec none 2 [],.imm 4 (A.1.map cC),.imm 1 (rg.1.map bI),.imm 1 (fu.1.map cL),.imm 1 (aS cv.1)⟩ ch.2]++[tB tb]) (List.Sublist.cons_cons _ (List.Sublist.cons_cons _ (List.nil_sublist _)))) ?_
 refine bn [eJ b s ⟨aP U,.vec q4 9 (gl.1.map bh),.imm 2 (ch.1.map cm),bO,.vec none 2 [],.imm 4 (A.1.map cC),.imm 1 (rg.1.map bI),.imm 1 (fu.1.map cL),.imm 1 (aS cv.1)⟩ ch.2] [tB tb] (wb s hs ⟨aP U,.vec q4 9 (gl.1.map bh),.imm 2 (ch.1.map cm),bO,.vec none 2 [],.imm 4 (A.1.map cC),.imm 1 (rg.1.map bI),.imm 1 (fu.1.map cL),.imm 1 (aS cv.1)⟩ rfl rfl gl.1.length hglm (by omega) b ch.2) rfl rfl (Jn _) rfl fun c L1 hL1=>?_
 subst hL1
 have hlk6:=(oM s (n:=gl.1.length) (by omega) ch.2).len
 generalize e12:j4 s gl.1.length ch.2=lk at hlk6 ⊢
 have hlkm:(lk.1.map bi).length=lk.1.length:=Jt ..
 repeat' (first|refine go ?_|fail)
 refine bq (hc:=⟨uF⟩) ?_
 refine aK (aM (L':=[eJ b s ⟨aP U,.vec q4 9 (gl.1.map bh),.imm 2 (ch.1.map cm),.imm 3 (lk.1.map bi),.vec none 2 [],.imm 4 (A.1.map cC),.imm 1 (rg.1.map bI),.imm 1 (fu.1.map cL),.imm 1 (aS cv.1)⟩ lk.2,tB tb]) (Jn _)) ?_
 repeat' (first|refine go ?_|refine am ?_|refine IG a6 EV ?_)
 have hn8:(gP eO).length=8:=rfl
 refine aO [2,3,16] (α:=Nat×Option (Nat×Nat)) (fun x=>[(17,aP x.1)]) (fun x=>x.1≤8) (fun x=>[eJ b s ⟨aP U,.vec q4 9 (gl.1.map bh),.imm 2 (ch.1.map cm),.imm 3 (lk.1.map bi),.vec x.2 2 ((iA s lk.1.length x.1 lk.2).1.map bv),.imm 4 (A.1.map cC),.imm 1 (rg.1.map bI),.imm 1 (fu.1.map cL),.imm 1 (aS cv.1)⟩ (iA s lk.1.length x.1 lk.2).2,tB tb]++tok x.2 83 2 ((iA s lk.1.length x.1 lk.2).1.map bv).length) (fun x=>8 - x.1) (0,none) rfl ⟨rfl,trivial⟩ (Nat.zero_le _) (fun _ _ h=>h) ?_
 rintro ⟨jf,q6⟩ hjf
 dsimp only at hjf ⊢
 have hftl:=vP s lk.1.length jf lk.2
 have hstep:iA s lk.1.length (jf+1) lk.2=(cA (nO s lk.1.length) fun r=>cA (dr s 2) fun z=>df (if z=0 then (iA s lk.1.length jf lk.2).1++[(⟨eO.getD jf ByteArray.empty,r⟩:bX)] else (iA s lk.1.length jf lk.2).1)) (iA s lk.1.length jf lk.2).2:=rfl
 try dsimp only [Jr,Jq,Jp,Jk]
 repeat' (first|refine go ?_|refine IG a6 EV ?_)
 refine au rfl (fun h=>?_) (fun h=>?_)
 ·have hj8:jf < 8:=by have:=Jy h;rw [hn8] at this;omega
  have hnm:(gP eO)[jf]?=some [gW (eO.getD jf ByteArray.empty)]:=jT (lu hj8 ByteArray.empty)
  generalize eO.getD jf ByteArray.empty=nm at hnm hstep
  generalize iA s lk.1.length jf lk.2=Ft at hftl hstep ⊢
  have hftm:(Ft.1.map bv).length=Ft.1.length:=Jt ..
  unfold cA at hstep
  repeat' (first|refine go ?_|refine am ?_|refine IG a6 EV ?_)
  refine bN (bo (t:=18) (c':= .vec none 1 []) rfl fun σ v h=>cO 1 h) ?_
  refine aO [2,3,16,17] (α:=Nat×Option (Nat×Nat)) (fun x=>[(19,aP x.1),(18,.vec x.2 1 (aS (nO s x.1 Ft.2).1))]) (fun x=>x.1≤lk.1.length) (fun x=>[eJ b s ⟨aP U,.vec q4 9 (gl.1.map bh),.imm 2 (ch.1.map cm),.imm 3 (lk.1.map bi),.vec q6 2 (Ft.1.map bv),.imm 4 (A.1.map cC),.imm 1 (rg.1.map bI),.imm 1 (fu.1.map cL),.imm 1 (aS cv.1)⟩ (nO s x.1 Ft.2).2,tB tb]++(tok x.2 3 1 (aS (nO s x.1 Ft.2).1).length++tok q6 83 2 (Ft.1.map bv).length)) (fun x=>lk.1.length - x.1) (0,none) rfl ⟨rfl,rfl,trivial⟩ (Nat.zero_le _) (fun _ _ h=>h) ?_
  rintro ⟨a,q7⟩ ha
  dsimp only at ha ⊢
  have hal7:=AN s a Ft.2
  have hst7:nO s (a+1) Ft.2=(cA (dr s 3) fun z=>df (if z=0 then (nO s a Ft.2).1++[(a:Int)] else (nO s a Ft.2).1)) (nO s a Ft.2).2:=rfl
  try dsimp only [Jr,Jq,Jp,Jk]
  repeat' (first|refine go ?_|refine IG a6 EV ?_|(apply bH;first|refine IJ a6 0 ID ?_|refine IJ a6 1 ID ?_|refine IJ a6 2 ID ?_|refine IJ a6 3 ID ?_|refine IK a6 0 ID ?_|refine IK a6 1 ID ?_|refine IK a6 2 ID ?_|refine IL a6 1 IB (by assumption) rfl ?_|refine IL a6 0 IB (by assumption) rfl ?_|fail)|fail)
  refine au rfl (fun h=>?_) (fun h=>?_)
  ·have hal:a < lk.1.length:=by have:=Jy h;rw [hlkm] at this;omega
   generalize nO s a Ft.2=As at hal7 hst7 ⊢
   have hasm:(aS As.1).length=As.1.length:=aF _
   unfold cA at hst7
   repeat' (first|refine go ?_|refine am ?_|refine IG a6 EV ?_)
   refine dh ?_
   generalize dr s 3 As.2=z at hst7 ⊢
   dsimp only [df] at hst7
   repeat' (first|refine go ?_|refine IG a6 EV ?_)
   refine au rfl (fun hz=>?_) (fun hz=>?_)
   ·rw [if_pos (Jy hz)] at hst7
    repeat' (first|refine go ?_|refine IG a6 EV ?_|refine bG a6 ?_|fail)
    refine IS a6 _ IC (fc (A:=[_,_])) (by simp [aF];omega) (by simp [aF];omega) rfl fun q'=>?_
    refine aK (aM (fc (A:=[_,_])).symm) ?_
    repeat' (first|refine go ?_|refine IG a6 EV ?_|(apply aW;refine aT ?_)|fail)
    exact aB (a+1,q') rfl ⟨by rw [Jv];rfl,by rw [hst7];dsimp only;rw [show aS (As.1++[(a:Int)])=aS As.1++[[aP (a:Int)]] from List.map_append ..];rfl,trivial⟩ (by dsimp only;omega) (by dsimp only;omega) (fun _ _ h=>by dsimp only;rw [hst7];dsimp only;rw [show aS (As.1++[(a:Int)])=aS As.1++[[aP (a:Int)]] from List.map_append ..];exact h)
   ·rw [if_neg (Jx hz)] at hst7
    repeat' (first|refine go ?_|refine IG a6 EV ?_|(apply aW;refine aT ?_)|fail)
    exact aB (a+1,q7) rfl ⟨by rw [Jv];rfl,by rw [hst7];rfl,trivial⟩ (by dsimp only;omega) (by dsimp only;omega) (fun _ _ h=>by dsimp only;rw [hst7];exact h)
  have hal:a=lk.1.length:=by have:=Jx h;rw [hlkm] at this;omega
  subst hal
  clear hst7
  generalize nO s lk.1.length Ft.2=As at hal7 hstep ⊢
  dsimp only at hstep
  repeat' (first|refine go ?_|refine IG a6 EV ?_)
  refine aK (bo (t:=18) (c':= .imm 1 (aS As.1)) rfl fun σ v h=>VR.im h) ?_
  refine aK (bM (L':=[eJ b s ⟨aP U,.vec q4 9 (gl.1.map bh),.imm 2 (ch.1.map cm),.imm 3 (lk.1.map bi),.vec q6 2 (Ft.1.map bv),.imm 4 (A.1.map cC),.imm 1 (rg.1.map bI),.imm 1 (fu.1.map cL),.imm 1 (aS cv.1)⟩ As.2,tB tb]++tok q6 83 2 (Ft.1.map bv).length) (List.Sublist.cons_cons _ (List.Sublist.cons_cons _ (List.sublist_append_right _ _)))) ?_
  refine dh ?_
  generalize dr s 2 As.2=z at hstep ⊢
  dsimp only [df] at hstep
  repeat' (first|refine go ?_|refine IG a6 EV ?_)
  refine au rfl (fun hz=>?_) (fun hz=>?_)
  ·rw [if_pos (Jy hz)] at hstep
   repeat' (first|fail)
   refine br 14 [(0,.v),(1,.v),(2,.v),(3,.v),(4,.v),(5,.l),(6,.v),(7,.v),(8,.v),(9,.v),(10,.v),(11,.v),(12,.v),(13,.e)] none ?_ trivial rfl (by kernel_rfl) (by kernel_rfl) (by kernel_rfl) mixed (by kernel_rfl) rfl
   repeat' (first|refine aC ?_|refine aY a6 ?_|(apply bS;refine ce a6 ?_)|refine dU a6 ?_|refine dg a6 0 rfl rfl rfl rfl (by first|trivial|rfl) ?_)
   refine eI a6 _ rfl rfl rfl rfl (List.perm_append_comm (l₁:=[_,_])) (by simp;omega) (by simp;omega) (by first | trivial | rfl) fun q'=>?_
   refine IQ [2,3,16,17,225,238] EV ?_
   refine aK (aM (List.perm_append_comm (l₂:=[_,_]))) ?_
   repeat' (first|refine go ?_|refine IG a6 EV ?_|(apply aW;refine aT ?_)|(apply aJ;first|refine II 6 a6 0 IF ?_|refine II 6 a6 1 IF ?_|refine II 6 a6 2 IF ?_|refine IH a6 0 IE ?_|refine IH a6 1 IE ?_|refine IH a6 2 IE ?_|refine IH a6 3 IE ?_|fail))
   exact aB (jf+1,q') rfl ⟨by rw [Jv];rfl,trivial⟩ (by dsimp only;omega) (by dsimp only;omega) (fun _ _ h=>by dsimp only;rw [hstep];dsimp only;rw [List.map_append];exact h)
  ·rw [if_neg (Jx hz)] at hstep
   repeat' (first|refine go ?_|refine IG a6 EV ?_|(apply aW;refine aT ?_)|fail)
   exact aB (jf+1,q6) rfl ⟨by rw [Jv];rfl,trivial⟩ (by dsimp only;omega) (by dsimp only;omega) (fun _ _ h=>by dsimp only;rw [hstep];exact h)
 have hj8:jf=8:=by have:=Jx h;rw [hn8] at this;omega
 subst hj8
 clear hstep
 generalize e13:iA s lk.1.length 8 lk.2=ft at hftl ⊢
 repeat' (first|refine go ?_|refine IG a6 EV ?_|(apply bH;first|refine IJ a6 0 ID ?_|refine IJ a6 1 ID ?_|refine IJ a6 2 ID ?_|refine IJ a6 3 ID ?_|refine IK a6 0 ID ?_|refine IK a6 1 ID ?_|refine IK a6 2 ID ?_|refine IL a6 1 IB (by assumption) rfl ?_|refine IL a6 0 IB (by assumption) rfl ?_|fail)|(apply aJ;first|refine II 6 a6 0 IF ?_|refine II 6 a6 1 IF ?_|refine II 6 a6 2 IF ?_|refine IH a6 0 IE ?_|refine IH a6 1 IE ?_|refine IH a6 2 IE ?_|refine IH a6 3 IE ?_|fail))
 have hv:na s=⟨U,gl.1,ch.1,lk.1,ft.1,A.1,rg.1,fu.1,cv.1⟩:=by
  unfold na BO cA
  rw [e1]
  try dsimp only
  rw [e2]
  try dsimp only
  rw [hkk,Int.toNat_natCast,e3]
  try dsimp only
  rw [e4,e5]
  try dsimp only
  rw [hkk2,Int.toNat_natCast,e6]
  try dsimp only
  rw [e7]
  try dsimp only
  rw [hkk3,Int.toNat_natCast,e8]
  try dsimp only
  rw [e9]
  try dsimp only
  rw [hkk4,Int.toNat_natCast,e10]
  try dsimp only
  rw [e11]
  try dsimp only
  rw [e12]
  try dsimp only
  rw [e13,hU]
  rfl
 rw [hv]
 exact ba (bC 1 (cs':=ci ⟨U,gl.1,ch.1,lk.1,ft.1,A.1,rg.1,fu.1,cv.1⟩) rfl fun σ vs h=>mH.vrs (a:=[aP U,.vec q4 9 (gl.1.map bh),.imm 2 (ch.1.map cm),.imm 3 (lk.1.map bi),.vec q6 2 (ft.1.map bv),.imm 4 (A.1.map cC),.imm 1 (rg.1.map bI),.imm 1 (fu.1.map cL),.imm 1 (aS cv.1)]) (b:=ci ⟨U,gl.1,ch.1,lk.1,ft.1,A.1,rg.1,fu.1,cv.1⟩) ⟨dt.refl _,dt.im,dt.refl _,dt.refl _,dt.im,dt.refl _,dt.refl _,dt.refl _,dt.refl _,trivial⟩ h) (jh a6 1 [] rfl rfl rfl rfl rfl (List.nil_sublist _) rfl)
end Go.Proofs.YtjjpkibjffmceaaGreat
namespace Go.Proofs.YtjjpkibjffmceaaGreat
open Go.RowKit
attribute [local irreducible] AT cg AX AO Av Kt bJ eC DA du
theorem zZ:to Tryz.prog 22 [] 3 1 (aS fy):=by
 refine aX Tryz.func22 rfl Tryz.ntmps22 rfl fun B=>?_
 repeat' (first|refine go ?_|refine IG a6 EV ?_|refine eK (d:=1) a6 fun _=>?_|fail)
 exact IM EV ⟨_,rfl,rfl⟩
section
variable {P:Program} {tt:TT} {r:Option Nat} {ops:Array Oper} {Q:Exit→Act→World→Prop} {nt:Nat} {D:List Deferred} {fr:cw} {B:Bs} {L:AL} {rest:List Oper} {d:Nat} {ty t:TypeId} {pos:String} {af:Array Edge} {x y:Operand} {u:AV}
theorem Gf (ok:f6 P tt) (hi:Nat) {e sz by_ s:Nat} {l1:List (List AV)} {q:IntKind} {a:Int} (ht:kN tt t=some (e,sz,by_)) (hx:bU fr x=some u) (hu:gZ u=some (s,l1)) (hs:Nat.beq s sz=true) (hy:bU fr y=some (.sc (.int q a))) (ha:a=(hi:Int)) (h1:hi≤l1.length) (hd:Nat.ble nt d=false) (h:cg P r ops Q nt D rest ((d,.imm s (l1.take hi))::fr) B L):cg P r ops Q nt D (⟨some d,.slice t x none (some y) none,ty,pos,af,none⟩::rest) fr B L:=dT (vi (bW ok ht).1 hx (cS hu) hs hy ha h1) hd rfl h
end
theorem z7 (l:List Int) (k:Nat):(aS l).take k=aS (l.take k):=by simp [aS]
def Iq (z:Int):Int:=gV.getD (z % 17).toNat 0
def Ff (f:aL) (l:List Int):Nat→List ByteArray
 | 0=>[]
 | k+1=>Ff f l k++(match f.Features[k]?,l[k]? with | some t,some z=>if z.tmod 3≠0 then [t.Name] else [] | _,_=>[])
def Ip (bs:List Int):List Int:=HB (bs.take 40)
def Io (f:aL) (bs:List Int):List ByteArray:=Ff f bs f.Features.length
def HK (ns:List Int):aL:=na (ns.take 300)
theorem CH (a:List ByteArray) (x:ByteArray):gP (a++[x])=gP a++[[gW x]]:=by simp [gP]
end Go.Proofs.YtjjpkibjffmceaaGreat
namespace Go.Proofs.YtjjpkibjffmceaaGreat
open Go.RowKit
attribute [local irreducible] AT cg AX AO Av Kt bJ eC DA du
theorem CK:∀z∈gV,vw z=false:=by decide
end Go.Proofs.YtjjpkibjffmceaaGreat
