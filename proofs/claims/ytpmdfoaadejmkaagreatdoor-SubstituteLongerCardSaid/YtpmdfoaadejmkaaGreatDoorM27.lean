/-
  The maker: hints, outlines.
-/
import Derived.Test.YtpmdfoaadejmkaaGreatDoorM26
import Derived.Test.YtpmdfoaadejmkaaGreatDoorM12
namespace Go.Proofs.YtpmdfoaadejmkaaGreatDoor
open Go.RowKit
attribute [local irreducible] AT br AX AO Av Kt bb df DA cC
variable (s:List Int) (hs:s.length≤1000000) (F:MF)
include hs
set_option maxHeartbeats 2000000 in
theorem rk (n fn most:Int) (hn:0≤n∧n≤1000) (hf:fn≤1000) (hm:0 < most∧most≤6):qy 90 [aF n,aF fn,aF most] s F (mp s n fn most) j4:=by
 intro b m
 refine aN Tryz.func90 rfl Tryz.ntmps90 rfl fun B=>?_
 repeat' (first|refine If ?_|refine IF a5 FN ?_)
 refine cu ?_
 have hk:=cg s hs m.a (n:=most) (by omega)
 have hk:0≤(dr s most m).1∧(dr s most m).1 < most:=hk
 generalize e1:dr s most m=p1 at hk ⊢
 obtain ⟨k,hkk⟩:∃k:Nat,p1.1=k:=⟨p1.1.toNat,by omega⟩
 have hlen:∀i,(fj s n fn i p1.2).1.length≤9 * i:=fun i=>(bK.runs (fun i l=>i8 (9 * i) l) i ⟨Nat.le_refl _,fun i hi=>by cases hi⟩ (fun i l _ h=>(rA s hn hf).bnd fun p hp=>bK.ret ⟨by rw [List.length_append];have:=h.1;have:=hp.1;omega,fun x hx=>by
  rcases Im hx with hx | hx
  ·exact h.2 x hx
  ·exact hp.2 x hx⟩) p1.2).1
 rw [hkk]
 repeat' (first|refine If ?_|refine ak ?_|refine IF a5 FN ?_)
 refine bP (bO (t:=9) (c':= .vec none 2 []) rfl fun σ v h=>cJ 2 h) ?_
 refine aO [0,1,2,10] (α:=Nat×Option (Nat×Nat)) (fun x=>[(11,aF x.1),(9,.vec x.2 2 ((fj s n fn x.1 p1.2).1.map eI))]) (fun x=>x.1≤k) (fun x=>dG b s F (fj s n fn x.1 p1.2).2::tok x.2 117 2 ((fj s n fn x.1 p1.2).1.map eI).length) (fun x=>k - x.1) (0,none) rfl ⟨rfl,rfl,trivial⟩ (Nat.zero_le _) (fun _ _ h=>h) ?_
 rintro ⟨i,q⟩ hi
 dsimp only at hi ⊢
 try dsimp only [Is,Ir,Iq,Ik]
 repeat' (first|refine If ?_|refine IF a5 FN ?_)
 refine aq rfl (fun h=>?_) (fun h=>?_)
 ·have hil:i < k:=by have:=Iy h;omega
  have hstep:fj s n fn (i+1) p1.2=((fj s n fn i p1.2).1++(cy s n fn (fj s n fn i p1.2).2).1,(cy s n fn (fj s n fn i p1.2).2).2):=rfl
  have hl1:=hlen i
  have hl2:=hlen (i+1)
  rw [hstep] at hl2
  rw [List.length_append] at hl2
  generalize fj s n fn i p1.2=st at hl1 hl2 hstep ⊢
  repeat' (first|refine If ?_|refine ak ?_|refine IF a5 FN ?_)
  refine u5 (vW s hs F n fn (by omega) (by omega)) ?_
  generalize cy s n fn st.2=pc at hl2 hstep ⊢
  unfold j4
  refine bJ a5 [dG b s F pc.2] rfl rfl rfl rfl (List.perm_append_comm (l₁:=[dG b s F pc.2])) (by simp;omega) (by simp;omega) rfl fun q'=>?_
  refine aJ (aI List.perm_append_comm) ?_
  rw [←List.map_append]
  repeat' (first|refine If ?_|refine IF a5 FN ?_|(apply aV;refine aU ?_)|fail)
  exact aD (i+1,q') rfl ⟨by rw [Iv];rfl,by rw [hstep];rfl,trivial⟩ (by dsimp only;omega) (by dsimp only;omega) (fun _ _ h=>by dsimp only;rw [hstep];exact h)
 have hil:i=k:=by have:=Ix h;omega
 subst hil
 repeat' (first|refine If ?_|refine IF a5 FN ?_)
 refine bf (bM (L':=[dG b s F (fj s n fn i p1.2).2]) (List.Sublist.cons_cons _ (List.nil_sublist _))) ?_
 refine bf (bO (t:=8) (c':= .imm 2 ((fj s n fn i p1.2).1.map eI)) rfl fun σ v h=>VR.im h) (IL FN ?_)
 have hv:mp s n fn most m=fj s n fn i p1.2:=by
  unfold mp bX
  rw [e1]
  dsimp only
  rw [hkk]
  rfl
 rw [hv]
 exact ⟨rfl,rfl⟩
end Go.Proofs.YtpmdfoaadejmkaaGreatDoor
namespace Go.Proofs.YtpmdfoaadejmkaaGreatDoor
open Go.RowKit
attribute [local irreducible] AT br AX AO Av Kt bb df DA cC
section
variable {P:Program} {tt:TT} {nt:Nat} {fr:bW} {B:Bs} {L L':AL}
theorem iD (ok:dY P tt) (i:Nat) (L':AL) {fn:Func} {Post:AV→AL→Prop} {t:Tmp} {e e':TypeId} {b k:Nat} {cs:List AV} (hr:fn.results=#[.cell t e]) (hk:FO tt e=some k) (hv:c6 fr t=some (.sc (.pointer (some ⟨b,0,none⟩)))) (hL:L[i]?=some (b,.box cs e')) (hl:Nat.beq cs.length k=true) (hs:L'.Sublist L) (h:Post (.agg cs) L'):
  AX P .ret (bodyPost P fn (iU B Post)) nt [] fr B L:=by
 unfold AX
 intro σ a w ha hw
 haveI:=ey ok hk
 obtain ⟨vs,hb,hs',h1⟩:=hw.boxCell hL
 have hl:=Nat.eq_of_beq_eq_true hl
 refine ⟨ha.defers,_,mG (cs:=vs) hr (ha.look t _ hv).sc_inv (hs'.1.symm.trans hl) (fun j v hj=>by rw [cL hb,Nat.zero_add];simpa using hj),_,σ,_,L',rfl,.agg cs vs hs'.1 hs'.2 h1,hw.sublist hs,h⟩
theorem cP.im {k:Option (Nat×Nat)} {sz:Nat} {l:List (List AV)}:cP (.vec k sz l) (.imm sz l):=fun _ _ h=>VR.im h
theorem cP.vecN (n:Nat):cP (.sc (.slice none 0 0)) (.vec none n []):=fun _ _ h=>cJ n h
end
section
variable {P:Program} {r:Option Nat} {Q:Exit→Act→World→Prop} {nt:Nat} {D:List Deferred} {fr fr1:bW} {B:Bs} {L:AL}
theorem rY {A C:Code} (ks:List Nat) (L1:AL) (hk:gm fr ks=some fr1) (hA:∀Q',(∀fr',gm fr' ks=some fr1→AX P .normal Q' nt D fr' B L1)→AT P r A Q' nt D fr B L) (hB:AT P r C Q nt D fr1 B L1):AT P r A (Kt P r C Q) nt D fr B L:=
 hA _ fun _ h=>a6 (wz ks h hB)
end
theorem ev {A T R:AL}:(A++(T++R)).Perm (T++(A++R)):=List.perm_append_comm_assoc ..
theorem GI {A T1 T R:AL}:(A++(T1++(T++R))).Perm (T++(A++(T1++R))):=by
 have:=ev (A:=A++T1) (T:=T) (R:=R)
 simpa [List.append_assoc] using this
end Go.Proofs.YtpmdfoaadejmkaaGreatDoor
namespace Go.Proofs.YtpmdfoaadejmkaaGreatDoor
open Go.RowKit
attribute [local irreducible] AT br AX AO Av Kt bb df DA cC
variable (s:List Int) (hs:s.length≤1000000) (F:MF)
include hs
abbrev bF:AV:= .sc (.slice none 0 0)
set_option maxHeartbeats 8000000 in
theorem sE:qy 175 [] s F (jd s) GD:=by
 intro b m
 refine aN Tryz.func175 rfl Tryz.ntmps175 rfl fun B=>?_
 repeat' (first|refine If ?_|refine IF a5 FN ?_|refine bh a5 fun _=>?_|fail)
 rename_i rb ob
 refine aJ (aI (L':=dG b s F m::(ob,.box [bF,bF] 70)::(rb,.box [bF,bF] 70)::[]) (List.perm_append_comm (l₁:=[_,_]))) ?_
 refine aJ (bo 1 (cs':=[.vec none 3 [],.vec none 1 []]) rfl fun σ vs h=>lX.vrs (a:=[bF,bF]) (b:=[.vec none 3 [],.vec none 1 []]) ⟨cP.vecN 3,cP.vecN 1,trivial⟩ h) ?_
 refine cu ?_
 have hk:=cg s hs m.a (n:=3) (by omega)
 have hk:0≤(dr s 3 m).1∧(dr s 3 m).1 < 3:=hk
 generalize e1:dr s 3 m=p1 at hk ⊢
 obtain ⟨k,hkk⟩:∃k:Nat,p1.1=k:=⟨p1.1.toNat,by omega⟩
 rw [hkk]
 have hok:∀i,t1 i (gT s i p1.2).1:=fun i=>ue s i p1.2
 repeat' (first|refine If ?_|refine ak ?_|refine IF a5 FN ?_)
 refine aO [0,2,3,4] (α:=Nat×Option (Nat×Nat)×Option (Nat×Nat)) (fun x=>[(5,aF x.1)]) (fun x=>x.1≤k) (fun x=>dG b s F (gT s x.1 p1.2).2::(ob,.box [.vec x.2.1 3 ((gT s x.1 p1.2).1.1.map dm),.vec x.2.2 1 (aT (gT s x.1 p1.2).1.2)] 70)::(rb,.box [bF,bF] 70)::(tok x.2.1 286 3 ((gT s x.1 p1.2).1.1.map dm).length++(tok x.2.2 3 1 (aT (gT s x.1 p1.2).1.2).length++[]))) (fun x=>k - x.1) (0,none,none) rfl ⟨rfl,trivial⟩ (Nat.zero_le _) (fun _ _ h=>by simpa [gT,gI,ret,tok,fa,aT] using h) ?_
 rintro ⟨i,q1,q2⟩ hi
 dsimp only at hi ⊢
 try dsimp only [Is,Ir,Iq,Ik]
 repeat' (first|refine If ?_|refine IF a5 FN ?_)
 refine aq rfl (fun h=>?_) (fun h=>?_)
 ·have hil:i < k:=by have:=Iy h;omega
  have hoi:=hok i
  have hoi1:=hok (i+1)
  have hstep:gT s (i+1) p1.2=bX (dr s 4) (fun k=>bX (nD s (gT s i p1.2).1.1 (2+k).toNat) fun l=>ret (l,(gT s i p1.2).1.2++[(l.length:Int) - 1])) (gT s i p1.2).2:=rfl
  rw [hstep] at hoi1
  generalize gT s i p1.2=st at hoi hoi1 hstep ⊢
  have hln:=hoi.len
  have hle:=hoi.endl
  repeat' (first|refine If ?_|refine ak ?_|refine IF a5 FN ?_)
  refine cu ?_
  have hc:=cg s hs st.2.a (n:=4) (by omega)
  have hc:0≤(dr s 4 st.2).1∧(dr s 4 st.2).1 < 4:=hc
  unfold bX at hstep hoi1
  generalize dr s 4 st.2=p2 at hc hstep hoi1 ⊢
  obtain ⟨c,hcc⟩:∃k:Nat,2+p2.1=k:=⟨(2+p2.1).toNat,by omega⟩
  dsimp only at hstep hoi1
  rw [hcc] at hstep hoi1
  dsimp only [Int.toNat_natCast] at hstep hoi1
  repeat' (first|refine If ?_|refine ak ?_|refine IF a5 FN ?_|(apply aV;refine aU ?_)|fail)
  rw [hcc]
  have hpt:∀j,(nD s st.1.1 j p2.2).1.length=st.1.1.length+j:=fun j=>(x9 s st.1.1 hoi.pts j p2.2).1
  refine aO [0,2,3,4,5,6] (α:=Nat×Option (Nat×Nat)) (fun x=>[(7,aF x.1)]) (fun x=>x.1≤c) (fun x=>dG b s F (nD s st.1.1 x.1 p2.2).2::(ob,.box [.vec x.2 3 ((nD s st.1.1 x.1 p2.2).1.map dm),.vec q2 1 (aT st.1.2)] 70)::(rb,.box [bF,bF] 70)::(tok x.2 286 3 ((nD s st.1.1 x.1 p2.2).1.map dm).length++(tok q2 3 1 (aT st.1.2).length++[]))) (fun x=>c - x.1) (0,q1) rfl ⟨rfl,trivial⟩ (Nat.zero_le _) (fun _ _ h=>h) ?_
  rintro ⟨j,q⟩ hj
  dsimp only at hj ⊢
  try dsimp only [Is,Ir,Iq,Ik]
  repeat' (first|refine If ?_|refine IF a5 FN ?_)
  refine aq rfl (fun h=>?_) (fun h=>?_)
  ·have hjl:j < c:=by have:=Iy h;omega
   have hl0:=hpt j
   have hstep2:nD s st.1.1 (j+1) p2.2=((nD s st.1.1 j p2.2).1++[(Et s j (nD s st.1.1 j p2.2).2).1],(Et s j (nD s st.1.1 j p2.2).2).2):=rfl
   generalize nD s st.1.1 j p2.2=u at hl0 hstep2 ⊢
   repeat' (first|refine If ?_|refine ak ?_)
   refine d7 [.cell (ob,0,.vec q 3 (u.1.map dm))] 19 [(0,.v),(1,.k),(2,.v),(6,.v),(10,.v),(11,.v),(3,.f),(4,.v),(5,.v),(7,.f),(8,.v),(9,.v),(12,.v),(13,.v),(14,.f),(15,.v),(16,.v),(17,.v),(18,.v)] none ?_ trivial rfl (by kernel_rfl) (by kernel_rfl) (by kernel_rfl) bT (by kernel_rfl) rfl
   repeat' (first|refine aC ?_|refine b6 a5 ?_|fail)
   refine dx a5 0 rfl rfl rfl (bD 1 rfl rfl bS) (by first | trivial | rfl) ?_
   repeat' (first|refine aC ?_|refine b6 a5 ?_|fail)
   refine er (bD 1 rfl rfl bS) ?_
   have hx:=cg s hs u.2.a (n:=21) (by omega)
   have hx:0≤(dr s 21 u.2).1∧(dr s 21 u.2).1 < 21:=hx
   generalize e2:dr s 21 u.2=x1 at hx ⊢
   repeat' (first|refine aC ?_|(apply dW;refine fz ?_)|fail)
   refine er (bD 1 rfl rfl bS) ?_
   have hy:=cg s hs x1.2.a (n:=21) (by omega)
   have hy:0≤(dr s 21 x1.2).1∧(dr s 21 x1.2).1 < 21:=hy
   generalize e3:dr s 21 x1.2=y1 at hy ⊢
   repeat' (first|refine aC ?_|refine b6 a5 ?_|(apply dW;refine fz ?_)|fail)
   by_cases hp:j=0
   ·rw [decide_eq_true (show ((j:Int)=0) by omega)]
    repeat' (first|refine aC ?_|refine qX rfl rfl ?_)
    refine Fa rfl rfl ?_
    have hpd:Et s j u.2=(⟨x1.1 * 50 - 100,y1.1 * 50 - 200,true⟩,y1.2):=by simp [Et,bX,ret,e2,e3,hp]
    rw [hpd] at hstep2
    dsimp only at hstep2
    repeat' (first|refine aC ?_|refine b6 a5 ?_|refine dS a5 ?_|refine qX rfl rfl ?_)
    refine IQ [0,2,3,4,5,6,7,24,41] FN ?_
    repeat' (first|fail)
    refine bJ a5 _ rfl rfl rfl rfl (ev (A:=[_,_,_])) (by simp;omega) (by simp;omega) rfl fun q'=>?_
    refine aJ (aI (ev (A:=[_,_,_])).symm) ?_
    repeat' (first|refine If ?_|refine IF a5 FN ?_|(apply aV;refine aU ?_)|(apply aM;first|refine IG a5 0 ID ?_|refine IG a5 1 ID ?_|refine IG a5 2 ID ?_|refine IG a5 3 ID ?_|fail))
    exact aD (j+1,q') rfl ⟨by rw [Iv];rfl,trivial⟩ (by dsimp only;omega) (by dsimp only;omega) (fun _ _ h=>by dsimp only;rw [hstep2];simpa [fa,f4,dm] using h)
   ·rw [decide_eq_false (show ¬((j:Int)=0) by omega)]
    repeat' (first|refine aC ?_|refine b6 a5 ?_|fail)
    refine er (bD 1 rfl rfl bS) ?_
    generalize e4:dr s 4 y1.2=z1
    have hpd:Et s j u.2=(⟨x1.1 * 50 - 100,y1.1 * 50 - 200,decide (0 < z1.1)⟩,z1.2):=by simp [Et,bX,ret,e2,e3,e4,hp]
    rw [hpd] at hstep2
    dsimp only at hstep2
    repeat' (first|refine aC ?_|refine b6 a5 ?_|refine dS a5 ?_|fail)
    refine IQ [0,2,3,4,5,6,7,24,41] FN ?_
    repeat' (first|fail)
    refine bJ a5 _ rfl rfl rfl rfl (ev (A:=[_,_,_])) (by simp;omega) (by simp;omega) rfl fun q'=>?_
    refine aJ (aI (ev (A:=[_,_,_])).symm) ?_
    repeat' (first|refine If ?_|refine IF a5 FN ?_|(apply aV;refine aU ?_)|(apply aM;first|refine IG a5 0 ID ?_|refine IG a5 1 ID ?_|refine IG a5 2 ID ?_|refine IG a5 3 ID ?_|fail))
    exact aD (j+1,q') rfl ⟨by rw [Iv];rfl,trivial⟩ (by dsimp only;omega) (by dsimp only;omega) (fun _ _ h=>by dsimp only;rw [hstep2];simpa [fa,f4,dm] using h)
  have hjl:j=c:=by have:=Ix h;omega
  subst hjl
  have hjn:=hpt j
  generalize nD s st.1.1 j p2.2=u at hjn hstep hoi1 ⊢
  have hul:(u.1.map dm).length=u.1.length:=Iu ..
  have hel:(aT st.1.2).length=st.1.2.length:=aZ _
  repeat' (first|refine If ?_|refine IF a5 FN ?_|(apply bw;first|refine II a5 0 IC ?_|refine II a5 1 IC ?_|refine II a5 2 IC ?_|refine II a5 3 IC ?_|refine IJ a5 0 IC ?_|refine IJ a5 1 IC ?_|refine IJ a5 2 IC ?_|refine IK a5 1 IA (by assumption) rfl ?_|refine IK a5 0 IA (by assumption) rfl ?_|fail)|(apply aV;refine aU ?_)|refine bG a5 ?_|fail)
  refine bJ a5 _ rfl rfl rfl rfl (GI (A:=[_,_,_])) (by simp [aZ];omega) (by simp [aZ];omega) rfl fun q'=>?_
  refine aJ (aI (GI (A:=[_,_,_])).symm) ?_
  repeat' (first|refine If ?_|refine IF a5 FN ?_|(apply aV;refine aU ?_)|(apply aM;first|refine IG a5 0 ID ?_|refine IG a5 1 ID ?_|refine IG a5 2 ID ?_|refine IG a5 3 ID ?_|fail))
  exact aD (i+1,q,q') rfl ⟨by rw [Iv];rfl,trivial⟩ (by dsimp only;omega) (by dsimp only;omega) (fun _ _ h=>by dsimp only;rw [hstep];simpa [fa,f4,ret,aT,hul] using h)
 have hil:i=k:=by have:=Ix h;omega
 subst hil
 have hv:jd s m=gT s i p1.2:=by
  unfold jd bX
  rw [e1]
  dsimp only
  rw [hkk]
  rfl
 rw [hv]
 generalize gT s i p1.2=st
 repeat' (first|refine If ?_|(apply bw;first|refine II a5 0 IC ?_|refine II a5 1 IC ?_|refine II a5 2 IC ?_|refine II a5 3 IC ?_|refine IJ a5 0 IC ?_|refine IJ a5 1 IC ?_|refine IJ a5 2 IC ?_|refine IK a5 1 IA (by assumption) rfl ?_|refine IK a5 0 IA (by assumption) rfl ?_|fail)|(apply aM;first|refine IG a5 0 ID ?_|refine IG a5 1 ID ?_|refine IG a5 2 ID ?_|refine IG a5 3 ID ?_|fail))
 refine bf (bo 2 (cs':=[.imm 3 (st.1.1.map dm),.imm 1 (aT st.1.2)]) rfl fun σ vs h=>lX.vrs (a:=[.vec q1 3 (st.1.1.map dm),.vec q2 1 (aT st.1.2)]) (b:=[.imm 3 (st.1.1.map dm),.imm 1 (aT st.1.2)]) ⟨cP.im,cP.im,trivial⟩ h) (iD a5 2 [dG b s F st.2] rfl rfl rfl rfl rfl (List.Sublist.cons_cons _ (List.nil_sublist _)) ⟨rfl,rfl⟩)
end Go.Proofs.YtpmdfoaadejmkaaGreatDoor
namespace Go.Proofs.YtpmdfoaadejmkaaGreatDoor
open Go.RowKit
attribute [local irreducible] AT br AX AO Av Kt bb df DA cC
variable (s:List Int) (hs:s.length≤1000000) (F:MF)
include hs
theorem Bi (a:Int) (m:MS) (k:Nat):(f3 s a k m).1.length≤1+k:=by
 have _:=hs
 clear hs
 refine (bK.runs (fun i (l:List Int)=>l.length≤1+i) k (by simp) fun i l _ h=>bK.ite (fun _=>(bK.any _).bnd fun z _=>bK.ret ?_) fun _=>bK.ret (by omega)) m
 split
 ·simp;omega
 ·omega
theorem yk (a:Int) (m:MS) {j:Nat} (h:4≤(f3 s a j m).1.length):∀k,j≤k→f3 s a k m=f3 s a j m:=by
 have _:=hs
 clear hs
 intro k hk
 induction k with
 | zero=>rw [show j=0 by omega]
 | succ k ih=>
  by_cases e:j=k+1
  ·rw [e]
  ·have h1:=ih (by omega)
   have h2:f3 s a (k+1) m=(if (f3 s a k m).1.length < 4 then bX (dr s 3) fun z=>ret (if z=0 then (f3 s a k m).1++[a+1+k] else (f3 s a k m).1) else ret (f3 s a k m).1) (f3 s a k m).2:=rfl
   rw [h2,h1,if_neg (by omega)]
   rfl
def DF (l:List Int):AV:= .imm 1 (aT l)
def BJ (l:List (List Int)):AV:= .imm 1 (b7 l)
set_option maxHeartbeats 4000000 in
theorem qg {kg:Option (Nat×Nat)} {gl:List (List AV)} (hF:F.gl= .vec kg 9 gl) (n:Nat) (hn:gl.length=n) (h0:0 < n∧n≤1000):qy 251 [] s F (mJ s n) DF:=by
 intro b m
 refine aN Tryz.func251 rfl Tryz.ntmps251 rfl fun B=>?_
 repeat' (first|refine If ?_|refine IF a5 FN ?_|(apply bw;first|refine II a5 0 IC ?_|refine II a5 1 IC ?_|refine II a5 2 IC ?_|refine II a5 3 IC ?_|refine IJ a5 0 IC ?_|refine IJ a5 1 IC ?_|refine IJ a5 2 IC ?_|refine IK a5 1 IA (by assumption) rfl ?_|refine IK a5 0 IA (by assumption) rfl ?_|fail)|fail)
 rw [hF]
 repeat' (first|refine If ?_|refine IF a5 FN ?_)
 rw [hn]
 refine cu ?_
 have hk:=cg s hs m.a (n:=n) (by omega)
 have hk:0≤(dr s n m).1∧(dr s n m).1 < n:=hk
 generalize e1:dr s n m=p1 at hk ⊢
 repeat' (first|refine If ?_|refine ak ?_|refine IF a5 FN ?_|(apply aV;refine aU ?_)|refine ru (d:=17) a5 fun _=>?_|fail)
 rename_i kb
 refine bP (aI (L':=[dG b s F p1.2]++(tok (some (kb,1)) 3 1 1++[])) (List.perm_append_comm (l₁:=[_]))) ?_
 have hmx:∀j,(f3 s p1.1 j p1.2).1.length≤1+j:=fun j=>Bi s hs _ _ j
 refine aO [0,3] (α:=Nat×Option (Nat×Nat)) (fun x=>[(6,aF (p1.1+1+x.1)),(5,.vec x.2 1 (aT (f3 s p1.1 x.1 p1.2).1))]) (fun x=>x.1≤(n - (p1.1+1)).toNat) (fun x=>[dG b s F (f3 s p1.1 x.1 p1.2).2]++(tok x.2 3 1 (aT (f3 s p1.1 x.1 p1.2).1).length++[])) (fun x=>(n - (p1.1+1)).toNat - x.1) (0,some (kb,1)) rfl ⟨by simp [c6],rfl,trivial⟩ (Nat.zero_le _) (fun _ _ h=>h) ?_
 rintro ⟨j,q⟩ hj
 dsimp only at hj ⊢
 have hl:=hmx j
 have hstop:=yk s hs p1.1 p1.2 (j:=j)
 have hstep:f3 s p1.1 (j+1) p1.2=(if (f3 s p1.1 j p1.2).1.length < 4 then bX (dr s 3) fun z=>ret (if z=0 then (f3 s p1.1 j p1.2).1++[p1.1+1+j] else (f3 s p1.1 j p1.2).1) else ret (f3 s p1.1 j p1.2).1) (f3 s p1.1 j p1.2).2:=rfl
 have hv:mJ s n m=f3 s p1.1 (n - (p1.1+1)).toNat p1.2:=by
  unfold mJ bX
  rw [e1]
 generalize e2:f3 s p1.1 j p1.2=st at hl hstop hstep ⊢
 have hil:(aT st.1).length=st.1.length:=aZ _
 try dsimp only [Is,Ir,Iq,Ik]
 repeat' (first|refine If ?_|refine IF a5 FN ?_)
 by_cases hlt:p1.1+1+(j:Int) < (n:Int)
 ·rw [decide_eq_true hlt]
  repeat' (first|refine If ?_|refine IF a5 FN ?_|refine IN FN ?_)
  refine aq rfl (fun h=>?_) (fun h=>?_)
  ·have h4:st.1.length < 4:=by have:=Iy h;omega
   repeat' (first|refine If ?_|refine ak ?_|refine IF a5 FN ?_)
   rw [if_pos h4] at hstep
   unfold bX at hstep
   refine cu ?_
   generalize dr s 3 st.2=z at hstep ⊢
   dsimp only at hstep
   repeat' (first|refine If ?_|refine IF a5 FN ?_)
   refine aq rfl (fun hz=>?_) (fun hz=>?_)
   ·rw [if_pos (Iy hz)] at hstep
    repeat' (first|refine If ?_|refine IF a5 FN ?_|refine bG a5 ?_|fail)
    refine bJ a5 _ rfl rfl rfl rfl (ev (A:=[_])) (by simp [aZ];omega) (by simp [aZ];omega) rfl fun q'=>?_
    refine aJ (aI (ev (A:=[_])).symm) ?_
    repeat' (first|refine If ?_|refine IF a5 FN ?_|(apply aV;refine aU ?_)|fail)
    exact aD (j+1,q') rfl ⟨by dsimp only;rw [show p1.1+1+((j+1:Nat):Int)=p1.1+1+(j:Int)+1 by omega];rfl,by rw [hstep];dsimp only [ret];rw [show aT (st.1++[p1.1+1+(j:Int)])=aT st.1++[[aF (p1.1+1+(j:Int))]] from List.map_append ..];rfl,trivial⟩ (by dsimp only;omega) (by dsimp only;omega) (fun _ _ h=>by dsimp only;rw [hstep];simpa [ret,aT] using h)
   ·rw [if_neg (Ix hz)] at hstep
    repeat' (first|refine If ?_|refine IF a5 FN ?_|(apply aV;refine aU ?_)|fail)
    exact aD (j+1,q) rfl ⟨by dsimp only;rw [show p1.1+1+((j+1:Nat):Int)=p1.1+1+(j:Int)+1 by omega];rfl,by rw [hstep];rfl,trivial⟩ (by dsimp only;omega) (by dsimp only;omega) (fun _ _ h=>by dsimp only;rw [hstep];simpa [ret] using h)
  ·have h4:¬st.1.length < 4:=by have:=Ix h;omega
   repeat' (first|refine If ?_|refine IF a5 FN ?_)
   refine bf (bM (L':=[dG b s F st.2]) (List.Sublist.cons_cons _ (List.nil_sublist _))) ?_
   refine bf (bO (t:=2) (c':= .imm 1 (aT st.1)) rfl fun σ v h=>VR.im h) (IL FN ?_)
   rw [hv,hstop (by omega) _ hj]
   exact ⟨rfl,rfl⟩
 ·rw [decide_eq_false hlt]
  repeat' (first|refine If ?_|refine IF a5 FN ?_|refine IP IB ?_|refine bI rfl ?_)
  refine bf (bM (L':=[dG b s F st.2]) (List.Sublist.cons_cons _ (List.nil_sublist _))) ?_
  refine bf (bO (t:=2) (c':= .imm 1 (aT st.1)) rfl fun σ v h=>VR.im h) (IL FN ?_)
  rw [hv,show (n - (p1.1+1)).toNat=j by omega,e2]
  exact ⟨rfl,rfl⟩
theorem fC (l:List (List Int)):(b7 l).length=l.length:=by
 have _:=hs
 clear hs
 simp [b7]
set_option maxHeartbeats 2000000 in
theorem mI {kg:Option (Nat×Nat)} {gl:List (List AV)} (hF:F.gl= .vec kg 9 gl) (n:Nat) (hn:gl.length=n) (h0:0 < n∧n≤1000) (most:Int) (hm:0≤most∧most≤6):qy 252 [aF most] s F (oB s n most) BJ:=by
 intro b m
 refine aN Tryz.func252 rfl Tryz.ntmps252 rfl fun B=>?_
 repeat' (first|refine If ?_|refine IF a5 FN ?_|(apply aV;refine aU ?_)|fail)
 refine cu ?_
 have hk:=cg s hs m.a (n:=most+1) (by omega)
 have hk:0≤(dr s (most+1) m).1∧(dr s (most+1) m).1 < most+1:=hk
 generalize e1:dr s (most+1) m=p1 at hk ⊢
 obtain ⟨k,hkk⟩:∃k:Nat,p1.1=k:=⟨p1.1.toNat,by omega⟩
 rw [hkk]
 have hln:∀j,(gU s n j p1.2).1.length=j:=fun j=>by
  induction j with
  | zero=>rfl
  | succ j ih=>
   have:gU s n (j+1) p1.2=((gU s n j p1.2).1++[(mJ s n (gU s n j p1.2).2).1],(mJ s n (gU s n j p1.2).2).2):=rfl
   rw [this]
   simp [ih]
 repeat' (first|refine If ?_|refine ak ?_|refine IF a5 FN ?_)
 refine bP (bO (t:=5) (c':= .vec none 1 []) rfl fun σ v h=>cJ 1 h) ?_
 refine aO [0,6] (α:=Nat×Option (Nat×Nat)) (fun x=>[(7,aF x.1),(5,.vec x.2 1 (b7 (gU s n x.1 p1.2).1))]) (fun x=>x.1≤k) (fun x=>[dG b s F (gU s n x.1 p1.2).2]++(tok x.2 22 1 (b7 (gU s n x.1 p1.2).1).length++[])) (fun x=>k - x.1) (0,none) rfl ⟨rfl,rfl,trivial⟩ (Nat.zero_le _) (fun _ _ h=>h) ?_
 rintro ⟨j,q⟩ hj
 dsimp only at hj ⊢
 have hl:=hln j
 have hstep:gU s n (j+1) p1.2=((gU s n j p1.2).1++[(mJ s n (gU s n j p1.2).2).1],(mJ s n (gU s n j p1.2).2).2):=rfl
 try dsimp only [Is,Ir,Iq,Ik]
 repeat' (first|refine If ?_|refine IF a5 FN ?_)
 refine aq rfl (fun h=>?_) (fun h=>?_)
 ·have hjl:j < k:=by have:=Iy h;omega
  generalize gU s n j p1.2=st at hl hstep ⊢
  have hrl:=fC s hs st.1
  repeat' (first|refine If ?_|refine ak ?_|refine IF a5 FN ?_)
  refine u5 (qg s hs F hF n hn h0) ?_
  generalize mJ s n st.2=y at hstep ⊢
  unfold DF
  repeat' (first|refine bG a5 ?_|fail)
  refine bJ a5 _ rfl rfl rfl rfl (ev (A:=[_])) (by simp [fC s hs];omega) (by simp [fC s hs];omega) rfl fun q'=>?_
  refine aJ (aI (ev (A:=[_])).symm) ?_
  repeat' (first|refine If ?_|refine IF a5 FN ?_|(apply aV;refine aU ?_)|fail)
  exact aD (j+1,q') rfl ⟨by rw [Iv];rfl,by rw [hstep];dsimp only;rw [show b7 (st.1++[y.1])=b7 st.1++[[.imm 1 (aT y.1)]] from List.map_append ..];rfl,trivial⟩ (by dsimp only;omega) (by dsimp only;omega) (fun _ _ h=>by dsimp only;rw [hstep];simpa [b7] using h)
 have hjl:j=k:=by have:=Ix h;omega
 subst hjl
 have hv:oB s n most m=gU s n j p1.2:=by
  unfold oB bX
  rw [e1]
  dsimp only
  rw [hkk]
  rfl
 rw [hv]
 generalize gU s n j p1.2=st
 repeat' (first|refine If ?_|refine IF a5 FN ?_)
 refine bf (bM (L':=[dG b s F st.2]) (List.Sublist.cons_cons _ (List.nil_sublist _))) ?_
 exact bf (bO (t:=4) (c':= .imm 1 (b7 st.1)) rfl fun σ v h=>VR.im h) (IL FN ⟨rfl,rfl⟩)
end Go.Proofs.YtpmdfoaadejmkaaGreatDoor
