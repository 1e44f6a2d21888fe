/-
  The maker: outlines, programs.
-/
import Derived.Test.YtpmdfoaadejmkaaGreatDoorM22
namespace Go.Proofs.YtpmdfoaadejmkaaGreatDoor
open Go.RowKit
section
attribute [local irreducible] AT bP AX AO Av Kt bb dh DA cG
variable (s:List Int) (hs:s.length≤1000000) (F:MF)
include hs
theorem cH (a:Nat) {n:Int} (hn:0 < n):0≤uJ s a n∧uJ s a n < n:=by
 have _:=hs
 clear hs
 unfold uJ
 split
 ·rename_i x _
  exact ⟨Int.emod_nonneg x (by omega),Int.emod_lt_of_pos x hn⟩
 ·omega
def Lz (o:List eO×List Int):AV:= .agg [.imm 3 (o.1.map dl),.imm 1 (aW o.2)]
def ky (l:List fh):AV:= .imm 2 (l.map eS)
set_option maxHeartbeats 8000000 in
theorem zk (n fn:Int) (hn:0≤n∧n≤10000) (hf:fn≤10000):sZ 174 [aK n,aK fn] s F (cV s n fn) ky:=by
 intro b m
 refine aV Tryz.func174 rfl Tryz.ntmps174 rfl fun B=>?_
 refine W02 ?_
 refine cS ?_
 refine W02 ?_
 refine cS ?_
 refine W01 ?_
 refine cS ?_
 refine W01 ?_
 refine cS ?_
 generalize e1:dr s (n+1) m=p1
 generalize e2:dr s (n+1) p1.2=p2
 generalize e3:dr s 2 p2.2=p3
 have hk:=cH s hs p3.2.a (n:=12) (by omega)
 have hk:0≤(dr s 12 p3.2).1∧(dr s 12 p3.2).1 < 12:=hk
 generalize e4:dr s 12 p3.2=p4 at hk ⊢
 refine W03 ?_
 refine aj rfl (fun h=>?_) (fun h=>?_)
 ·have h:=Ny h
  refine W0g ?_
  exact NM IG ⟨by simp [cV,cm,cQ,e1,e2,e3,e4,ky,eS,h],by simp [cV,cm,cQ,e1,e2,e3,e4,h]⟩
 have h0:=Nx h
 clear h
 refine W01 ?_
 refine aj rfl (fun h=>?_) (fun h=>?_)
 ·have h:=Ny h
  refine W01 ?_
  refine cS ?_
  refine W0g ?_
  exact NM IG ⟨by simp [cV,cm,cQ,e1,e2,e3,e4,ky,eS,h],by simp [cV,cm,cQ,e1,e2,e3,e4,h]⟩
 have h1:=Nx h
 clear h
 refine W01 ?_
 refine aj rfl (fun h=>?_) (fun h=>?_)
 ·have h:=Ny h
  rw [decide_eq_true h]
  repeat' (first|refine Ng ?_|refine NG a5 IG ?_|refine bM a5 ?_|refine bR rfl ?_)
  exact NM IG ⟨by simp [cV,cm,cQ,e1,e2,e3,e4,ky,eS,h],by simp [cV,cm,cQ,e1,e2,e3,e4,h]⟩
 have h2:=Nx h
 clear h
 refine W01 ?_
 refine aj rfl (fun h=>?_) (fun h=>?_)
 ·have h:=Ny h
  refine W0g ?_
  exact NM IG ⟨by simp [cV,cm,cQ,e1,e2,e3,e4,ky,eS,h],by simp [cV,cm,cQ,e1,e2,e3,e4,h]⟩
 have h3:=Nx h
 clear h
 refine W01 ?_
 refine aj rfl (fun h=>?_) (fun h=>?_)
 ·have h:=Ny h
  refine W01 ?_
  refine cS ?_
  have hz:=cH s hs p4.2.a (n:=200) (by omega)
  have hz:0≤(dr s 200 p4.2).1∧(dr s 200 p4.2).1 < 200:=hz
  repeat' (first|refine Ng ?_|refine NG a5 IG ?_|(apply aS;refine aR ?_)|refine bM a5 ?_|fail)
  exact NM IG ⟨by simp [cV,cm,cQ,e1,e2,e3,e4,ky,eS,h],by simp [cV,cm,cQ,e1,e2,e3,e4,h]⟩
 have h4:=Nx h
 clear h
 refine W01 ?_
 refine aj rfl (fun h=>?_) (fun h=>?_)
 ·have h:=Ny h
  refine W0g ?_
  exact NM IG ⟨by simp [cV,cm,cQ,e1,e2,e3,e4,ky,eS,h],by simp [cV,cm,cQ,e1,e2,e3,e4,h]⟩
 have h5:=Nx h
 clear h
 refine W01 ?_
 refine aj rfl (fun h=>?_) (fun h=>?_)
 ·have h:=Ny h
  refine W0g ?_
  exact NM IG ⟨by simp [cV,cm,cQ,e1,e2,e3,e4,ky,eS,h],by simp [cV,cm,cQ,e1,e2,e3,e4,h]⟩
 have h6:=Nx h
 clear h
 refine W01 ?_
 refine aj rfl (fun h=>?_) (fun h=>?_)
 ·have h:=Ny h
  refine W0g ?_
  exact NM IG ⟨by simp [cV,cm,cQ,e1,e2,e3,e4,ky,eS,h],by simp [cV,cm,cQ,e1,e2,e3,e4,h]⟩
 have h7:=Nx h
 clear h
 refine W01 ?_
 refine aj rfl (fun h=>?_) (fun h=>?_)
 ·have h:=Ny h
  refine W01 ?_
  refine aj rfl (fun hf0=>?_) (fun hf0=>?_)
  ·have hf0:=Ny hf0
   refine W01 ?_
   refine cS ?_
   refine W0g ?_
   exact NM IG ⟨by simp [cV,cm,cQ,e1,e2,e3,e4,ky,eS,h,hf0],by simp [cV,cm,cQ,e1,e2,e3,e4,h,hf0]⟩
  ·have hf0:=Nx hf0
   refine W0g ?_
   exact NM IG ⟨by simp [cV,cm,cQ,e1,e2,e3,e4,ky,eS,iA,h,hf0],by simp [cV,cm,cQ,e1,e2,e3,e4,iA,h,hf0]⟩
 have h8:=Nx h
 clear h
 refine W01 ?_
 refine aj rfl (fun h=>?_) (fun h=>?_)
 ·have h:=Ny h
  by_cases hf0:0 < fn
  ·refine W01 ?_
   rw [decide_eq_true hf0]
   refine W0p ?_
   refine aj rfl (fun hl=>?_) (fun hl=>?_)
   ·have hl:=Ny hl
    refine W0E ?_
    have hlt:=p4.2.lo.isLt
    have hlz:0 < p4.2.lo.val:=by omega
    have hcell:((p4.2.lo.val:Nat):Int) - 1=((p4.2.lo.val - 1:Nat):Int):=by omega
    rw [hcell]
    change bP _ _ _ _ _ _ _ _ _ [eC b s F (Ll p4.2).2]
    refine cS ?_
    repeat' (first|refine NG a5 IG ?_)
    refine cS ?_
    refine W0g ?_
    exact NM IG ⟨by simp [cV,cm,cQ,e1,e2,e3,e4,ky,eS,h,hf0,s4,hlz],by simp [cV,cm,cQ,e1,e2,e3,e4,h,hf0,s4,hlz]⟩
   ·have hl:=Nx hl
    have hl0:p4.2.lo.val=0:=by omega
    refine W0g ?_
    exact NM IG ⟨by simp [cV,cm,cQ,e1,e2,e3,e4,ky,eS,iA,h,hf0,s4,hl0],by simp [cV,cm,cQ,e1,e2,e3,e4,iA,h,hf0,s4,hl0]⟩
  ·refine W01 ?_
   rw [decide_eq_false hf0]
   repeat' (first|refine Ng ?_|refine NG a5 IG ?_|refine NO NB ?_|refine bM a5 ?_|refine bJ rfl ?_)
   exact NM IG ⟨by simp [cV,cm,cQ,e1,e2,e3,e4,ky,eS,iA,h,hf0],by simp [cV,cm,cQ,e1,e2,e3,e4,iA,h,hf0]⟩
 have h9:=Nx h
 clear h
 refine W01 ?_
 refine aj rfl (fun h=>?_) (fun h=>?_)
 ·have h:=Ny h
  refine W0g ?_
  exact NM IG ⟨by simp [cV,cm,cQ,e1,e2,e3,e4,ky,eS,h],by simp [cV,cm,cQ,e1,e2,e3,e4,h]⟩
 have h10:=Nx h
 clear h
 refine W0g ?_
 exact NM IG ⟨by simp [cV,cm,cQ,e1,e2,e3,e4,ky,eS,iA,h0,h1,h2,h3,h4,h5,h6,h7,h8,h9,h10],by simp [cV,cm,cQ,e1,e2,e3,e4,iA,h0,h1,h2,h3,h4,h5,h6,h7,h8,h9,h10]⟩
end
section
attribute [local irreducible] AT bP AX AO Av Kt bb dh DA cG
variable (s:List Int) (hs:s.length≤1000000) (F:MF)
include hs
set_option maxHeartbeats 2000000 in
theorem tQ (n fn most:Int) (hn:0≤n∧n≤1000) (hf:fn≤1000) (hm:0 < most∧most≤6):sZ 90 [aK n,aK fn,aK most] s F (oB s n fn most) ky:=by
 intro b m
 refine aV Tryz.func90 rfl Tryz.ntmps90 rfl fun B=>?_
 refine W01 ?_
 refine cS ?_
 have hk:=cH s hs m.a (n:=most) (by omega)
 have hk:0≤(dr s most m).1∧(dr s most m).1 < most:=hk
 generalize e1:dr s most m=p1 at hk ⊢
 obtain ⟨k,hkk⟩:∃k:Nat,p1.1=k:=⟨p1.1.toNat,by omega⟩
 have hlen:∀i,(ga s n fn i p1.2).1.length≤9 * i:=fun i=>(c9.runs (fun i l=>kX (9 * i) l) i ⟨Nat.le_refl _,fun i hi=>by cases hi⟩ (fun i l _ h=>(u1 s hn hf).bnd fun p hp=>c9.ret ⟨by rw [List.length_append];have:=h.1;have:=hp.1;omega,fun x hx=>by
  rcases Nm hx with hx | hx
  ·exact h.2 x hx
  ·exact hp.2 x hx⟩) p1.2).1
 rw [hkk]
 refine W03 ?_
 refine bU (bH (t:=9) (c':= .vec none 2 []) rfl fun σ v h=>cW 2 h) ?_
 refine aM [0,1,2,10] (α:=Nat×Option (Nat×Nat)) (fun x=>[(11,aK x.1),(9,.vec x.2 2 ((ga s n fn x.1 p1.2).1.map eS))]) (fun x=>x.1≤k) (fun x=>eC b s F (ga s n fn x.1 p1.2).2::tok x.2 117 2 ((ga s n fn x.1 p1.2).1.map eS).length) (fun x=>k - x.1) (0,none) rfl ⟨rfl,rfl,trivial⟩ (Nat.zero_le _) (fun _ _ h=>h) ?_
 rintro ⟨i,q⟩ hi
 dsimp only at hi ⊢
 try dsimp only [Ns,Nr,Nq,Nk]
 refine W01 ?_
 refine aj rfl (fun h=>?_) (fun h=>?_)
 ·have hil:i < k:=by have:=Ny h;omega
  have hstep:ga s n fn (i+1) p1.2=((ga s n fn i p1.2).1++(cV s n fn (ga s n fn i p1.2).2).1,(cV s n fn (ga s n fn i p1.2).2).2):=rfl
  have hl1:=hlen i
  have hl2:=hlen (i+1)
  rw [hstep] at hl2
  rw [List.length_append] at hl2
  generalize ga s n fn i p1.2=st at hl1 hl2 hstep ⊢
  refine W03 ?_
  refine wX (zk s hs F n fn (by omega) (by omega)) ?_
  generalize cV s n fn st.2=pc at hl2 hstep ⊢
  unfold ky
  refine NS a5 [eC b s F pc.2] NB (List.perm_append_comm (l₁:=[eC b s F pc.2])) (by simp;omega) (by simp;omega) rfl fun q'=>?_
  refine aL (aQ List.perm_append_comm) ?_
  rw [←List.map_append]
  refine W02 ?_
  exact aC (i+1,q') rfl ⟨by rw [Nv];rfl,by rw [hstep];rfl,trivial⟩ (by dsimp only;omega) (by dsimp only;omega) (fun _ _ h=>by dsimp only;rw [hstep];exact h)
 have hil:i=k:=by have:=Nx h;omega
 subst hil
 refine W01 ?_
 refine bf (bF (L':=[eC b s F (ga s n fn i p1.2).2]) (List.Sublist.cons_cons _ (List.nil_sublist _))) ?_
 refine bf (bH (t:=8) (c':= .imm 2 ((ga s n fn i p1.2).1.map eS)) rfl fun σ v h=>VR.im h) (NM IG ?_)
 have hv:oB s n fn most m=ga s n fn i p1.2:=by
  unfold oB cm
  rw [e1]
  dsimp only
  rw [hkk]
  rfl
 rw [hv]
 exact ⟨rfl,rfl⟩
end
section
attribute [local irreducible] AT bP AX AO Av Kt bb dh DA cG
variable (s:List Int) (hs:s.length≤1000000) (F:MF)
include hs
abbrev bZ:AV:= .sc (.slice none 0 0)
set_option maxHeartbeats 8000000 in
theorem vg:sZ 175 [] s F (kG s) Lz:=by
 intro b m
 refine aV Tryz.func175 rfl Tryz.ntmps175 rfl fun B=>?_
 refine W1P ?_
 intros
 rename_i rb ob
 refine aL (aQ (L':=eC b s F m::(ob,.box [bZ,bZ] 70)::(rb,.box [bZ,bZ] 70)::[]) (List.perm_append_comm (l₁:=[_,_]))) ?_
 refine aL (bL 1 (cs':=[.vec none 3 [],.vec none 1 []]) rfl fun σ vs h=>mF.vrs (a:=[bZ,bZ]) (b:=[.vec none 3 [],.vec none 1 []]) ⟨d7.vecN 3,d7.vecN 1,trivial⟩ h) ?_
 refine cS ?_
 have hk:=cH s hs m.a (n:=3) (by omega)
 have hk:0≤(dr s 3 m).1∧(dr s 3 m).1 < 3:=hk
 generalize e1:dr s 3 m=p1 at hk ⊢
 obtain ⟨k,hkk⟩:∃k:Nat,p1.1=k:=⟨p1.1.toNat,by omega⟩
 rw [hkk]
 have hok:∀i,vJ i (jd s i p1.2).1:=fun i=>x5 s i p1.2
 refine W03 ?_
 refine aM [0,2,3,4] (α:=Nat×Option (Nat×Nat)×Option (Nat×Nat)) (fun x=>[(5,aK x.1)]) (fun x=>x.1≤k) (fun x=>eC b s F (jd s x.1 p1.2).2::(ob,.box [.vec x.2.1 3 ((jd s x.1 p1.2).1.1.map dl),.vec x.2.2 1 (aW (jd s x.1 p1.2).1.2)] 70)::(rb,.box [bZ,bZ] 70)::(tok x.2.1 286 3 ((jd s x.1 p1.2).1.1.map dl).length++(tok x.2.2 3 1 (aW (jd s x.1 p1.2).1.2).length++[]))) (fun x=>k - x.1) (0,none,none) rfl ⟨rfl,trivial⟩ (Nat.zero_le _) (fun _ _ h=>by simpa [jd,iV,cQ,tok,fx,aW] using h) ?_
 rintro ⟨i,q1,q2⟩ hi
 dsimp only at hi ⊢
 try dsimp only [Ns,Nr,Nq,Nk]
 refine W01 ?_
 refine aj rfl (fun h=>?_) (fun h=>?_)
 ·have hil:i < k:=by have:=Ny h;omega
  have hoi:=hok i
  have hoi1:=hok (i+1)
  have hstep:jd s (i+1) p1.2=cm (dr s 4) (fun k=>cm (pP s (jd s i p1.2).1.1 (2+k).toNat) fun l=>cQ (l,(jd s i p1.2).1.2++[(l.length:Int) - 1])) (jd s i p1.2).2:=rfl
  rw [hstep] at hoi1
  generalize jd s i p1.2=st at hoi hoi1 hstep ⊢
  have hln:=hoi.len
  have hle:=hoi.endl
  refine W03 ?_
  refine cS ?_
  have hc:=cH s hs st.2.a (n:=4) (by omega)
  have hc:0≤(dr s 4 st.2).1∧(dr s 4 st.2).1 < 4:=hc
  unfold cm at hstep hoi1
  generalize dr s 4 st.2=p2 at hc hstep hoi1 ⊢
  obtain ⟨c,hcc⟩:∃k:Nat,2+p2.1=k:=⟨(2+p2.1).toNat,by omega⟩
  dsimp only at hstep hoi1
  rw [hcc] at hstep hoi1
  dsimp only [Int.toNat_natCast] at hstep hoi1
  refine W0B ?_
  rw [hcc]
  have hpt:∀j,(pP s st.1.1 j p2.2).1.length=st.1.1.length+j:=fun j=>(AZ s st.1.1 hoi.pts j p2.2).1
  refine aM [0,2,3,4,5,6] (α:=Nat×Option (Nat×Nat)) (fun x=>[(7,aK x.1)]) (fun x=>x.1≤c) (fun x=>eC b s F (pP s st.1.1 x.1 p2.2).2::(ob,.box [.vec x.2 3 ((pP s st.1.1 x.1 p2.2).1.map dl),.vec q2 1 (aW st.1.2)] 70)::(rb,.box [bZ,bZ] 70)::(tok x.2 286 3 ((pP s st.1.1 x.1 p2.2).1.map dl).length++(tok q2 3 1 (aW st.1.2).length++[]))) (fun x=>c - x.1) (0,q1) rfl ⟨rfl,trivial⟩ (Nat.zero_le _) (fun _ _ h=>h) ?_
  rintro ⟨j,q⟩ hj
  dsimp only at hj ⊢
  try dsimp only [Ns,Nr,Nq,Nk]
  refine W01 ?_
  refine aj rfl (fun h=>?_) (fun h=>?_)
  ·have hjl:j < c:=by have:=Ny h;omega
   have hl0:=hpt j
   have hstep2:pP s st.1.1 (j+1) p2.2=((pP s st.1.1 j p2.2).1++[(J4 s j (pP s st.1.1 j p2.2).2).1],(J4 s j (pP s st.1.1 j p2.2).2).2):=rfl
   generalize pP s st.1.1 j p2.2=u at hl0 hstep2 ⊢
   refine W0n ?_
   refine dM [.cell (ob,0,.vec q 3 (u.1.map dl))] 19 [(0,.v),(1,.k),(2,.v),(6,.v),(10,.v),(11,.v),(3,.f),(4,.v),(5,.v),(7,.f),(8,.v),(9,.v),(12,.v),(13,.v),(14,.f),(15,.v),(16,.v),(17,.v),(18,.v)] none ?_ trivial rfl (by kernel_rfl) (by kernel_rfl) (by kernel_rfl) bQ (by kernel_rfl) rfl
   refine W09 ?_
   refine eo a5 0 rfl rfl rfl (c5 1 rfl rfl ci) (by first | trivial | rfl) ?_
   refine W09 ?_
   refine f8 (c5 1 rfl rfl ci) ?_
   have hx:=cH s hs u.2.a (n:=21) (by omega)
   have hx:0≤(dr s 21 u.2).1∧(dr s 21 u.2).1 < 21:=hx
   generalize e2:dr s 21 u.2=x1 at hx ⊢
   refine W1j ?_
   refine f8 (c5 1 rfl rfl ci) ?_
   have hy:=cH s hs x1.2.a (n:=21) (by omega)
   have hy:0≤(dr s 21 x1.2).1∧(dr s 21 x1.2).1 < 21:=hy
   generalize e3:dr s 21 x1.2=y1 at hy ⊢
   refine W0x ?_
   by_cases hp:j=0
   ·rw [decide_eq_true (show ((j:Int)=0) by omega)]
    refine W1s ?_
    refine JN rfl rfl ?_
    have hpd:J4 s j u.2=(⟨x1.1 * 50 - 100,y1.1 * 50 - 200,true⟩,y1.2):=by simp [J4,cm,cQ,e2,e3,hp]
    rw [hpd] at hstep2
    dsimp only at hstep2
    repeat' (first|refine aD ?_|refine aZ a5 ?_|refine dQ a5 ?_|refine gw rfl rfl ?_)
    refine NP [0,2,3,4,5,6,7,24,41] IG ?_
    refine NS a5 _ NB (ff (A:=[_,_,_])) (by simp;omega) (by simp;omega) rfl fun q'=>?_
    refine aL (aQ (ff (A:=[_,_,_])).symm) ?_
    refine W0f ?_
    exact aC (j+1,q') rfl ⟨by rw [Nv];rfl,trivial⟩ (by dsimp only;omega) (by dsimp only;omega) (fun _ _ h=>by dsimp only;rw [hstep2];simpa [fx,fS,dl] using h)
   ·rw [decide_eq_false (show ¬((j:Int)=0) by omega)]
    refine W09 ?_
    refine f8 (c5 1 rfl rfl ci) ?_
    generalize e4:dr s 4 y1.2=z1
    have hpd:J4 s j u.2=(⟨x1.1 * 50 - 100,y1.1 * 50 - 200,decide (0 < z1.1)⟩,z1.2):=by simp [J4,cm,cQ,e2,e3,e4,hp]
    rw [hpd] at hstep2
    dsimp only at hstep2
    refine W0V ?_
    refine NP [0,2,3,4,5,6,7,24,41] IG ?_
    refine NS a5 _ NB (ff (A:=[_,_,_])) (by simp;omega) (by simp;omega) rfl fun q'=>?_
    refine aL (aQ (ff (A:=[_,_,_])).symm) ?_
    refine W0f ?_
    exact aC (j+1,q') rfl ⟨by rw [Nv];rfl,trivial⟩ (by dsimp only;omega) (by dsimp only;omega) (fun _ _ h=>by dsimp only;rw [hstep2];simpa [fx,fS,dl] using h)
  have hjl:j=c:=by have:=Nx h;omega
  subst hjl
  have hjn:=hpt j
  generalize pP s st.1.1 j p2.2=u at hjn hstep hoi1 ⊢
  have hul:(u.1.map dl).length=u.1.length:=Nu ..
  have hel:(aW st.1.2).length=st.1.2.length:=aJ _
  repeat' (first|refine Ng ?_|refine NG a5 IG ?_|(apply bz;first|refine NJ a5 0 NC ?_|refine NJ a5 1 NC ?_|refine NJ a5 2 NC ?_|refine NJ a5 3 NC ?_|refine NK a5 0 NC ?_|refine NK a5 1 NC ?_|refine NK a5 2 NC ?_|refine NL a5 1 NA (by assumption) rfl ?_|refine NL a5 0 NA (by assumption) rfl ?_|fail)|(apply aS;refine aR ?_)|refine bM a5 ?_|fail)
  refine NS a5 _ NB (LE (A:=[_,_,_])) (by simp [aJ];omega) (by simp [aJ];omega) rfl fun q'=>?_
  refine aL (aQ (LE (A:=[_,_,_])).symm) ?_
  refine W0f ?_
  exact aC (i+1,q,q') rfl ⟨by rw [Nv];rfl,trivial⟩ (by dsimp only;omega) (by dsimp only;omega) (fun _ _ h=>by dsimp only;rw [hstep];simpa [fx,fS,cQ,aW,hul] using h)
 have hil:i=k:=by have:=Nx h;omega
 subst hil
 have hv:kG s m=jd s i p1.2:=by
  unfold kG cm
  rw [e1]
  dsimp only
  rw [hkk]
  rfl
 rw [hv]
 generalize jd s i p1.2=st
 refine W07 ?_
 refine bf (bL 2 (cs':=[.imm 3 (st.1.1.map dl),.imm 1 (aW st.1.2)]) rfl fun σ vs h=>mF.vrs (a:=[.vec q1 3 (st.1.1.map dl),.vec q2 1 (aW st.1.2)]) (b:=[.imm 3 (st.1.1.map dl),.imm 1 (aW st.1.2)]) ⟨d7.im,d7.im,trivial⟩ h) (NU a5 2 [eC b s F st.2] NC (List.Sublist.cons_cons _ (List.nil_sublist _)) ⟨rfl,rfl⟩)
end
end Go.Proofs.YtpmdfoaadejmkaaGreatDoor
