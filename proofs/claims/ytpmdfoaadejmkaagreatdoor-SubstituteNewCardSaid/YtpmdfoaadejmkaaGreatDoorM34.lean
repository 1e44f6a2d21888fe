/-
  The document's errors, each of them: features, lookups, programs.
-/
import Derived.Test.YtpmdfoaadejmkaaGreatDoorM33
namespace Go.Proofs.YtpmdfoaadejmkaaGreatDoor
open Go.RowKit
attribute [local irreducible] AT bP AX AO Av Kt bb dh DA cG
theorem zJ {f:aT} {n:Nat} {t:c6} (hg:f.Features[n]?=some t):eY (iB f) n t.Name=true↔∃y∈f.Features.take n,y.Name=t.Name:=by
 rw [mZ (by unfold iB;rw [List.getElem?_map,hg];rfl)]
 unfold iB
 rw [←List.map_take,List.mem_map]
theorem JP (f:aT) (n:Nat) (t:c6):f9 f n t=eA [gJ (dU t.Name) (eY (iB f) n t.Name),(cw t.Lookups (iG f t)).1]:=by
 unfold f9 wn
 by_cases h:gJ (dU t.Name) (eY (iB f) n t.Name)=0
 ·rw [if_neg (not_not_intro h),bW h]
  by_cases h2:(cw t.Lookups (iG f t)).1=0
  ·rw [bW h2,h2];rfl
  ·rw [dp h2]
 ·rw [if_pos h,dp h]
set_option maxHeartbeats 8000000 in
theorem C5 (f:aT) (hs:dV f) (n:Nat) (t:c6) (hg:f.Features[n]?=some t):bV Tryz.prog 161 [ca f,aK n] (aK (f9 f n t)):=by
 refine aV Tryz.func161 rfl Tryz.ntmps161 rfl fun B=>?_
 rw [JP]
 have htk:=zJ hg
 have hml:(f.Features.map cg).length=f.Features.length:=Nu ..
 have hLl:(f.Lookups.map br).length=f.Lookups.length:=Nu ..
 have hn:n < f.Features.length:=(Np hg).1
 have hgg:=bG (c:=cg) hg
 have hF:=hs.features
 have hli:=aJ t.Lookups
 have hlb:t.Lookups.length≤2000:=by
  have:=rj (g:=fun t:c6=>t.Lookups.length) (Nw hg)
  have:=hs.feats
  omega
 refine W1t ?_
 refine aj rfl (fun h=>absurd (Ny h) (by rw [hml];omega)) (fun h=>?_)
 clear h
 refine W0U ?_
 intros
 refine bY (t:=33) [1,2,5] (¬(1≤t.Name.size∧t.Name.size≤8)) rfl (fun Q' K=>?_) ?_
 ·repeat' (first|refine Ng ?_|refine NG a5 IG ?_|refine NN IG ?_|refine NO NB ?_|refine NR NA (fun _=>?_) (fun _=>?_))
  all_goals exact K _ _ rfl rfl (by clear K;simp_all <;> omega)
 repeat' (first|refine Ng ?_|fail)
 refine aj rfl (fun h=>?_) (fun h=>?_)
 ·have h:=Ny h
  refine W01 ?_
  exact NM IG (c7 (by unfold dU;rw [decide_eq_false h];rfl))
 have hsz:=Decidable.not_not.1 (Nx h)
 clear h
 refine W03 ?_
 refine aM [1,2,5] (α:=Nat) (fun i=>[(6,aK i)]) (fun i=>i≤t.Name.size∧∀j,j < i→kz (lW t.Name j)=true) (fun _=>[]) (fun i=>t.Name.size - i) 0 rfl ⟨rfl,trivial⟩ ⟨Nat.zero_le _,fun j hj=>absurd hj (Nat.not_lt_zero _)⟩ (fun _ _ h=>h) ?_
 rintro i hi
 try dsimp only [Ns,Nr,Nq,Nk]
 refine W01 ?_
 refine aj rfl (fun h=>?_) (fun h=>?_)
 ·have hil:i < t.Name.size:=by have:=Ny h;omega
  obtain ⟨c,hc⟩:=ri hil
  have hb:=kV hc
  refine W03 ?_
  refine rd a5 rfl rfl rfl rfl (by omega) (by rw [Int.toNat_natCast];exact hc) rfl ?_
  generalize (c.toNat:Int)=z at *
  refine W01 ?_
  refine bY (t:=58) [1,2,5,6] (kz z=false) rfl (fun Q' K=>?_) ?_
  ·clear hi hb hc h
   repeat' (first|refine Ng ?_|refine NG a5 IG ?_|refine NN IG ?_|refine NO NB ?_|refine cq rfl rfl rfl ?_|refine NR NA (fun _=>?_) (fun _=>?_))
   all_goals exact K _ _ rfl rfl (by clear K;unfold kz;simp_all <;> omega)
  repeat' (first|refine Ng ?_|fail)
  refine aj rfl (fun h2=>?_) (fun h2=>?_)
  ·have h2:=Ny h2
   refine W01 ?_
   exact NM IG (c7 (by unfold dU;rw [jW hil (by rw [hb];exact h2),Bool.and_false];rfl))
  ·have h2:=Nx h2
   refine W02 ?_
   refine aC (i+1) rfl ⟨by rw [Nv];rfl,trivial⟩ ⟨by omega,fun j hj=>?_⟩ (by omega) (fun _ _ h=>h)
   by_cases e:j=i
   ·subst e;rw [hb];simpa using h2
   ·exact hi.2 j (by omega)
 have hil:i=t.Name.size:=by have:=Nx h;omega
 subst hil
 have hlet:dU t.Name=true:=by unfold dU;rw [decide_eq_true hsz,km.2 hi.2];rfl
 rw [hlet]
 clear h hi
 refine W03 ?_
 refine aM [1,2,5] (α:=Nat) (fun i=>[(8,aK i)]) (fun i=>i≤n∧∀y∈f.Features.take i,¬y.Name=t.Name) (fun _=>[]) (fun i=>n - i) 0 rfl ⟨rfl,trivial⟩ ⟨Nat.zero_le _,fun x hx=>by cases hx⟩ (fun _ _ h=>h) ?_
 rintro i ⟨hi,ha⟩
 try dsimp only [Ns,Nr,Nq,Nk]
 refine W01 ?_
 refine aj rfl (fun h=>?_) (fun h=>?_)
 ·have hil:i < n:=by have:=Ny h;omega
  obtain ⟨y,hy⟩:∃z,f.Features[i]?=some z:=⟨_,Nz (by omega)⟩
  have hyg:=bG (c:=cg) hy
  refine W0n ?_
  refine bv 8 [(0,.v),(1,.v),(2,.v),(3,.v),(4,.v),(5,.v),(6,.v),(7,.v)] none ?_ trivial rfl (by kernel_rfl) (by kernel_rfl) (by kernel_rfl) bQ (by kernel_rfl) rfl
  refine W0b ?_
  refine NP [1,2,5,8,69,71] IG ?_
  refine W0k ?_
  refine aj rfl (fun h2=>?_) (fun h2=>?_)
  ·have h2:=Ny h2
   refine W01 ?_
   exact NM IG (c7 (by rw [htk.2 ⟨y,Nw (by rw [List.getElem?_take,if_pos hil];exact hy),h2⟩];rfl))
  have h2:=Nx h2
  refine W02 ?_
  exact aC (i+1) rfl ⟨by rw [Nv];rfl,trivial⟩ ⟨by omega,kM hy ha h2⟩ (by omega) (fun _ _ h=>h)
 have hil:i=n:=by have:=Nx h;omega
 subst hil
 have hfree:eY (iB f) i t.Name=false:=by
  rw [←Bool.not_eq_true,htk]
  rintro ⟨y,hy,e⟩
  exact ha y hy e
 rw [hfree,bW (show gJ true false=0 from rfl)]
 clear h ha htk hfree
 refine W03 ?_
 refine aM [2,5] (α:=Nat) (fun i=>[(9,aK i)]) (fun k=>k≤t.Lookups.length∧∀j y,j < k→t.Lookups[j]?=some y→iG f t j y=0) (fun _=>[]) (fun k=>t.Lookups.length - k) 0 rfl ⟨rfl,trivial⟩ ⟨Nat.zero_le _,dv⟩ (fun _ _ h=>h) ?_
 rintro k ⟨hk,hb⟩
 try dsimp only [Ns,Nr,Nq,Nk]
 refine W01 ?_
 refine aj rfl (fun h=>?_) (fun h=>?_)
 ·have hkl:k < t.Lookups.length:=by have:=Ny h;omega
  obtain ⟨x,hx⟩:∃z,t.Lookups[k]?=some z:=⟨_,Nz hkl⟩
  have hxg:=bK hx
  have hE:iG f t k x=d3 (decide (x < 0∨x≥f.Lookups.length) || tR t k x) 43:=rfl
  have hno:iG f t k x=43→eA [(cw t.Lookups (iG f t)).1]=43:=fun h=>by rw [gx hx hb h (by omega)];rfl
  refine W0n ?_
  refine bv 35 [(0,.v),(1,.v),(2,.v),(3,.v),(4,.v),(5,.v),(6,.v),(7,.v),(8,.v),(9,.v),(10,.v),(11,.v),(12,.v),(13,.v),(14,.v),(15,.v),(16,.v),(17,.v),(18,.v),(19,.v),(20,.v),(21,.v),(22,.v),(23,.v),(24,.v),(25,.v),(26,.v),(27,.v),(28,.v),(29,.v),(30,.v),(31,.v),(32,.v),(33,.v),(34,.v)] none ?_ trivial rfl (by kernel_rfl) (by kernel_rfl) (by kernel_rfl) bQ (by kernel_rfl) rfl
  refine W0b ?_
  by_cases h1:x < 0
  ·rw [decide_eq_true h1]
   refine W16 ?_
   refine NP [2,5,9,114] IG ?_
   refine W18 ?_
   exact NM IG (c7 (hno (by rw [hE,decide_eq_true (.inl h1)];rfl)))
  rw [decide_eq_false h1]
  refine W0b ?_
  by_cases h2:((f.Lookups.map br).length:Int)≤x
  ·rw [decide_eq_true h2]
   refine W16 ?_
   refine NP [2,5,9,114] IG ?_
   refine W18 ?_
   exact NM IG (c7 (hno (by rw [hE,decide_eq_true (.inr (by omega))];rfl)))
  rw [decide_eq_false h2]
  rw [decide_eq_false (by omega),Bool.false_or] at hE
  refine W09 ?_
  by_cases h4:(0:Int) < k
  ·rw [decide_eq_true h4]
   obtain ⟨j,rfl⟩:∃j,k=j+1:=⟨k - 1,by omega⟩
   obtain ⟨y,hy⟩:∃z,t.Lookups[j]?=some z:=⟨_,Nz (by omega)⟩
   have hyg:=bK hy
   have hdl:tR t (j+1) x=decide (x≤y):=by show (match t.Lookups[j]? with | some b=>decide (x≤b) | none=>false)=_;rw [hy]
   have hj1:((j+1:Nat):Int) - 1=(j:Int):=by omega
   rw [hdl] at hE
   refine W13 ?_
   rw [hj1]
   refine W0b ?_
   refine NP [2,5,9,114] IG ?_
   refine W1H ?_
   refine aj rfl (fun h7=>?_) (fun h7=>?_)
   ·have h7:=Ny h7
    refine W01 ?_
    exact NM IG (c7 (hno (by rw [hE,decide_eq_true h7];rfl)))
   have h7:=Nx h7
   refine W02 ?_
   exact aC (j+1+1) rfl ⟨by rw [Nv];rfl,trivial⟩ ⟨by omega,eh hx hb (by rw [hE,decide_eq_false h7];rfl)⟩ (by omega) (fun _ _ h=>h)
  ·rw [decide_eq_false h4]
   refine W11 ?_
   refine NP [2,5,9,114] IG ?_
   refine W17 ?_
   have hi0:k=0:=by omega
   exact aC (k+1) rfl ⟨by rw [Nv];rfl,trivial⟩ ⟨by omega,eh hx hb (by rw [hE,hi0];rfl)⟩ (by omega) (fun _ _ h=>h)
 have hkl:k=t.Lookups.length:=by have:=Nx h;omega
 subst hkl
 refine W01 ?_
 exact NM IG (c7 (by rw [bW (eQ hb)];rfl))
def s3 (f:aT):Int:=eA [(bT 40 f.Lookups (g7 f)).1,(bT 20 f.Features (f9 f)).1]
set_option maxHeartbeats 8000000 in
theorem Cu (f:aT) (hs:dV f):AC Tryz.prog 82 [ca f] [] (Kv (s3 f)):=by
 refine aV Tryz.func82 rfl Tryz.ntmps82 rfl fun B=>?_
 unfold s3
 have hml:(f.Features.map cg).length=f.Features.length:=Nu ..
 have hLl:(f.Lookups.map br).length=f.Lookups.length:=Nu ..
 refine W0G ?_
 intros
 rename_i rb
 refine aj rfl (fun h=>?_) (fun h=>?_)
 ·have h:=Ny h
  refine W05 ?_
  exact NU a5 0 [] NC (List.nil_sublist _) (lK 0 (by rw [ei (by omega)];rfl))
 have hl:(f.Lookups.length:Int)≤40:=by have:=Nx h;omega
 clear h
 refine W03 ?_
 refine aM [1,2] (α:=Nat) (fun i=>[(3,aK i)]) (fun i=>i≤f.Lookups.length∧∀j y,j < i→f.Lookups[j]?=some y→g7 f j y=0) (fun _=>[(rb,.box [aK 0,aK 0] 55)]) (fun i=>f.Lookups.length - i) 0 rfl ⟨rfl,trivial⟩ ⟨Nat.zero_le _,dv⟩ (fun _ _ h=>h) ?_
 rintro i ⟨hi,ha⟩
 try dsimp only [Ns,Nr,Nq,Nk]
 refine W01 ?_
 refine aj rfl (fun h=>?_) (fun h=>?_)
 ·have hil:i < f.Lookups.length:=by have:=Ny h;omega
  obtain ⟨x,hx⟩:∃z,f.Lookups[i]?=some z:=⟨_,Nz hil⟩
  haveI a1:AD Tryz.prog 160 [ca f,aK i] (aK (g7 f i x)):=⟨wN f hs i x hx⟩
  refine W10 ?_
  refine aj rfl (fun h2=>?_) (fun h2=>?_)
  ·have h2:¬g7 f i x=0:=by simpa using h2
   refine W05 ?_
   exact NU a5 0 [] NC (List.nil_sublist _) (lK i (by rw [dG hl hx ha rfl h2,dp h2]))
  have h2:g7 f i x=0:=by simpa using h2
  refine W02 ?_
  exact aC (i+1) rfl ⟨by rw [Nv];rfl,trivial⟩ ⟨by omega,eh hx ha h2⟩ (by omega) (fun _ _ h=>h)
 have hil:i=f.Lookups.length:=by have:=Nx h;omega
 subst hil
 rw [bW (eE hl ha)]
 clear h hi
 refine W01 ?_
 refine aj rfl (fun h=>?_) (fun h=>?_)
 ·have h:=Ny h
  refine W05 ?_
  exact NU a5 0 [] NC (List.nil_sublist _) (lK 0 (by rw [ei (by omega)];rfl))
 have hf:(f.Features.length:Int)≤20:=by have:=Nx h;omega
 clear h
 refine W03 ?_
 refine aM [1,2] (α:=Nat) (fun i=>[(5,aK i)]) (fun i=>i≤f.Features.length∧∀j y,j < i→f.Features[j]?=some y→f9 f j y=0) (fun _=>[(rb,.box [aK 0,aK 0] 55)]) (fun i=>f.Features.length - i) 0 rfl ⟨rfl,trivial⟩ ⟨Nat.zero_le _,dv⟩ (fun _ _ h=>h) ?_
 rintro i ⟨hi,hb⟩
 try dsimp only [Ns,Nr,Nq,Nk]
 refine W01 ?_
 refine aj rfl (fun h=>?_) (fun h=>?_)
 ·have hil:i < f.Features.length:=by have:=Ny h;omega
  obtain ⟨x,hx⟩:∃z,f.Features[i]?=some z:=⟨_,Nz hil⟩
  haveI a1:AD Tryz.prog 161 [ca f,aK i] (aK (f9 f i x)):=⟨C5 f hs i x hx⟩
  refine W10 ?_
  refine aj rfl (fun h2=>?_) (fun h2=>?_)
  ·have h2:¬f9 f i x=0:=by simpa using h2
   refine W05 ?_
   exact NU a5 0 [] NC (List.nil_sublist _) (lK i (by rw [dG hf hx hb rfl h2,dp h2]))
  have h2:f9 f i x=0:=by simpa using h2
  refine W02 ?_
  exact aC (i+1) rfl ⟨by rw [Nv];rfl,trivial⟩ ⟨by omega,eh hx hb h2⟩ (by omega) (fun _ _ h=>h)
 have hil:i=f.Features.length:=by have:=Nx h;omega
 subst hil
 refine W05 ?_
 exact NU a5 0 [] NC (List.nil_sublist _) (lK 0 (by rw [bW (eE hf hb)];rfl))
def sy (f:aT):Int:=eA [(bT 20 f.Funcs ox).1,(bT 64 f.Cvt t3).1]
theorem Ac (i:Nat) (z:Int):t3 i z=if cY z=true then 0 else 1:=by
 unfold t3 d3
 cases h:cY z <;> simp [h]
set_option maxHeartbeats 8000000 in
theorem CP (f:aT):AC Tryz.prog 84 [ca f] [] (Kv (sy f)):=by
 refine aV Tryz.func84 rfl Tryz.ntmps84 rfl fun B=>?_
 unfold sy
 have hml:(f.Funcs.map dO).length=f.Funcs.length:=Nu ..
 have hLl:=aJ f.Cvt
 refine W0G ?_
 intros
 rename_i rb
 refine aj rfl (fun h=>?_) (fun h=>?_)
 ·have h:=Ny h
  refine W05 ?_
  exact NU a5 0 [] NC (List.nil_sublist _) (lK 0 (by rw [ei (by omega)];rfl))
 have hl:(f.Funcs.length:Int)≤20:=by have:=Nx h;omega
 clear h
 refine W03 ?_
 refine aM [1,2] (α:=Nat) (fun i=>[(3,aK i)]) (fun i=>i≤f.Funcs.length∧∀j y,j < i→f.Funcs[j]?=some y→ox j y=0) (fun _=>[(rb,.box [aK 0,aK 0] 55)]) (fun i=>f.Funcs.length - i) 0 rfl ⟨rfl,trivial⟩ ⟨Nat.zero_le _,dv⟩ (fun _ _ h=>h) ?_
 rintro i ⟨hi,ha⟩
 try dsimp only [Ns,Nr,Nq,Nk]
 refine W01 ?_
 refine aj rfl (fun h=>?_) (fun h=>?_)
 ·have hil:i < f.Funcs.length:=by have:=Ny h;omega
  obtain ⟨x,hx⟩:∃z,f.Funcs[i]?=some z:=⟨_,Nz hil⟩
  have hxg:=bG (c:=dO) hx
  refine W0w ?_
  refine aj rfl (fun h2=>?_) (fun h2=>?_)
  ·have h2:¬il x=0:=by simpa using h2
   refine W05 ?_
   exact NU a5 0 [] NC (List.nil_sublist _) (lK i (by rw [dG (w:=ox) (e:=il x) hl hx ha rfl h2,dp h2]))
  have h2:il x=0:=by simpa using h2
  refine W02 ?_
  exact aC (i+1) rfl ⟨by rw [Nv];rfl,trivial⟩ ⟨by omega,eh (w:=ox) hx ha h2⟩ (by omega) (fun _ _ h=>h)
 have hil:i=f.Funcs.length:=by have:=Nx h;omega
 subst hil
 rw [bW (eE hl ha)]
 clear h hi
 refine W01 ?_
 refine aj rfl (fun h=>?_) (fun h=>?_)
 ·have h:=Ny h
  refine W05 ?_
  exact NU a5 0 [] NC (List.nil_sublist _) (lK 0 (by rw [ei (by omega)];rfl))
 have hf:(f.Cvt.length:Int)≤64:=by have:=Nx h;omega
 clear h
 refine W03 ?_
 refine aM [1,2] (α:=Nat) (fun i=>[(5,aK i)]) (fun i=>i≤f.Cvt.length∧∀j y,j < i→f.Cvt[j]?=some y→t3 j y=0) (fun _=>[(rb,.box [aK 0,aK 0] 55)]) (fun i=>f.Cvt.length - i) 0 rfl ⟨rfl,trivial⟩ ⟨Nat.zero_le _,dv⟩ (fun _ _ h=>h) ?_
 rintro i ⟨hi,hb⟩
 try dsimp only [Ns,Nr,Nq,Nk]
 refine W01 ?_
 refine aj rfl (fun h=>?_) (fun h=>?_)
 ·have hil:i < f.Cvt.length:=by have:=Ny h;omega
  obtain ⟨x,hx⟩:∃z,f.Cvt[i]?=some z:=⟨_,Nz hil⟩
  have hxg:=bK hx
  refine W0w ?_
  refine aj rfl (fun h2=>?_) (fun h2=>?_)
  ·have h2:cY x=false:=by simpa using h2
   refine W05 ?_
   exact NU a5 0 [] NC (List.nil_sublist _) (lK i (by rw [dG (e:=1) hf hx hb (by rw [Ac,h2];rfl) (by omega)];rfl))
  have h2:cY x=true:=by simpa using h2
  refine W02 ?_
  exact aC (i+1) rfl ⟨by rw [Nv];rfl,trivial⟩ ⟨by omega,eh hx hb (by rw [Ac,h2];rfl)⟩ (by omega) (fun _ _ h=>h)
 have hil:i=f.Cvt.length:=by have:=Nx h;omega
 subst hil
 refine W05 ?_
 exact NU a5 0 [] NC (List.nil_sublist _) (lK 0 (by rw [bW (eE hf hb)];rfl))
theorem Gz (i:Nat) (t:ev):kN i t=0↔nq t=true:=by
 unfold kN nq
 rw [ee (by omega),decide_eq_false_iff_not,decide_eq_true_iff]
 omega
def M9 (f:aT):Prop:=(f.Axes.length≤3∧∀(i:Nat) (a:ej),f.Axes[i]?=some a→fV f i a=0)∧(f.Regions.length≤16∧∀r∈f.Regions,r.length=f.Axes.length∧∀t∈r,nq t=true)
theorem zH {f:aT} {n:Nat} {t:ej} (hg:f.Axes[n]?=some t):eY (it f) n t.Name=true↔∃y∈f.Axes.take n,y.Name=t.Name:=by
 rw [mZ (by unfold it;rw [List.getElem?_map,hg];rfl)]
 unfold it
 rw [←List.map_take,List.mem_map]
theorem JH (f:aT) (n:Nat) (t:ej):fV f n t=eA [gJ (dx t.Name) (eY (it f) n t.Name),if t.Min > t.Def∨t.Def > t.Max∨cY t.Min=false∨cY t.Max=false then 60 else 0]:=by
 unfold fV w7
 by_cases h:gJ (dx t.Name) (eY (it f) n t.Name)=0
 rotate_left
 ·rw [if_pos h,dp h]
 ·rw [if_neg (not_not_intro h),bW h]
  show _=if (if t.Min > t.Def∨t.Def > t.Max∨cY t.Min=false∨cY t.Max=false then (60:Int) else 0)=0 then 0 else _
  unfold d3
  simp only [List.all_cons,List.all_nil,Bool.and_true,Bool.and_eq_true]
  by_cases h1:t.Min > t.Def∨t.Def > t.Max∨cY t.Min=false∨cY t.Max=false
  ·rw [if_pos h1,if_neg (by omega),decide_eq_false]
   ·rfl
   rintro ⟨⟨h2,_,h3⟩,h4,h5⟩
   rw [h2,h3] at h1
   simp at h1
   omega
  ·rw [if_neg h1,if_pos rfl,decide_eq_true]
   ·rfl
   have h2:cY t.Min=true:=by rw [←Bool.not_eq_false];exact fun e=>h1 (.inr (.inr (.inl e)))
   have h3:cY t.Max=true:=by rw [←Bool.not_eq_false];exact fun e=>h1 (.inr (.inr (.inr e)))
   refine ⟨⟨h2,?_,h3⟩,by omega,by omega⟩
   unfold cY at h2 h3 ⊢
   rw [decide_eq_true_iff] at h2 h3 ⊢
   omega
theorem Gx (i:Nat) (t:ev):kN i t=if nq t=true then 0 else 61:=by
 have h:=Gz i t
 by_cases h1:nq t=true
 ·rw [if_pos h1];exact h.2 h1
 ·rw [if_neg h1]
  have h2:¬kN i t=0:=fun e=>h1 (h.1 e)
  unfold kN at h2 ⊢
  unfold d3 at h2 ⊢
  revert h2
  cases decide (¬(-64≤t.Start∧t.Start≤t.Peak∧t.Peak≤t.End∧t.End≤64)∨(t.Start < 0∧t.End > 0∧t.Peak≠0)) <;> simp
def w6 (f:aT):Int:=eA [(bT 3 f.Axes (fV f)).1,(bT 16 f.Regions (jN f)).1]
set_option maxHeartbeats 8000000 in
theorem Eb (f:aT) (hax:∀a∈f.Axes,a.Name.size≤140737488355328):AC Tryz.prog 83 [ca f] [] (Kv (w6 f)):=by
 refine aV Tryz.func83 rfl Tryz.ntmps83 rfl fun B=>?_
 unfold w6
 have hml:(f.Axes.map cO).length=f.Axes.length:=Nu ..
 have hLl:(f.Regions.map bX).length=f.Regions.length:=Nu ..
 refine W0G ?_
 intros
 rename_i rb
 refine aj rfl (fun h=>?_) (fun h=>?_)
 ·have h:=Ny h
  refine W0c ?_
  exact NU a5 0 [] NC (List.nil_sublist _) (lK 0 (by rw [ei (by omega)];rfl))
 have hl:(f.Axes.length:Int)≤3:=by have:=Nx h;omega
 clear h
 refine W03 ?_
 refine aM [1,2] (α:=Nat) (fun i=>[(3,aK i)]) (fun i=>i≤f.Axes.length∧∀j y,j < i→f.Axes[j]?=some y→fV f j y=0) (fun _=>[(rb,.box [aK 0,aK 0] 55)]) (fun i=>f.Axes.length - i) 0 rfl ⟨rfl,trivial⟩ ⟨Nat.zero_le _,dv⟩ (fun _ _ h=>h) ?_
 rintro i ⟨hi,ha⟩
 try dsimp only [Ns,Nr,Nq,Nk]
 refine W01 ?_
 refine aj rfl (fun h=>?_) (fun h=>?_)
 ·have hil:i < f.Axes.length:=by have:=Ny h;omega
  obtain ⟨x,hx⟩:∃z,f.Axes[i]?=some z:=⟨_,Nz hil⟩
  have hxg:=bG (c:=cO) hx
  haveI a1:AD Tryz.prog 162 [vE x.Name] (dy (dx x.Name)):=⟨tW x.Name (hax x (Nw hx))⟩
  have hE:=JH f i x
  have htk:=zH hx
  have hno:∀e,fV f i x=e→e≠0→eA [(bT 3 f.Axes (fV f)).1,(bT 16 f.Regions (jN f)).1]=e:=fun e h h0=>by rw [dG hl hx ha h h0,dp h0]
  refine W0u ?_
  intros
  refine aj rfl (fun h2=>?_) (fun h2=>?_)
  ·have h2:dx x.Name=false:=by simpa using h2
   refine W0c ?_
   exact NU a5 0 [] NC (List.nil_sublist _) (lK i (hno _ (by rw [hE,h2];rfl) (by omega)))
  have hname:dx x.Name=true:=by simpa using h2
  rw [hname] at hE
  refine W03 ?_
  refine aM [1,2,3,4] (α:=Nat) (fun k=>[(6,aK k)]) (fun k=>k≤i∧∀y∈f.Axes.take k,¬y.Name=x.Name) (fun _=>[(rb,.box [aK 0,aK 0] 55)]) (fun k=>i - k) 0 rfl ⟨rfl,trivial⟩ ⟨Nat.zero_le _,fun x hx=>by cases hx⟩ (fun _ _ h=>h) ?_
  clear h
  rintro k ⟨hk,hb⟩
  try dsimp only [Ns,Nr,Nq,Nk]
  refine W01 ?_
  refine aj rfl (fun h=>?_) (fun h=>?_)
  ·have hkl:k < i:=by have:=Ny h;omega
   obtain ⟨y,hy⟩:∃z,f.Axes[k]?=some z:=⟨_,Nz (by omega)⟩
   have hyg:=bG (c:=cO) hy
   refine W0n ?_
   refine bv 8 [(0,.v),(1,.v),(2,.v),(3,.v),(4,.v),(5,.v),(6,.v),(7,.v)] none ?_ trivial rfl (by kernel_rfl) (by kernel_rfl) (by kernel_rfl) bQ (by kernel_rfl) rfl
   refine W0b ?_
   refine NP [1,2,3,4,6,46,48] IG ?_
   refine W0k ?_
   refine aj rfl (fun h3=>?_) (fun h3=>?_)
   ·have h3:=Ny h3
    refine W0c ?_
    exact NU a5 0 [] NC (List.nil_sublist _) (lK i (hno _ (by rw [hE,htk.2 ⟨y,Nw (by rw [List.getElem?_take,if_pos hkl];exact hy),h3⟩];rfl) (by omega)))
   have h3:=Nx h3
   refine W02 ?_
   exact aC (k+1) rfl ⟨by rw [Nv];rfl,trivial⟩ ⟨by omega,kM hy hb h3⟩ (by omega) (fun _ _ h=>h)
  have hkl:k=i:=by have:=Nx h;omega
  subst hkl
  have hfree:eY (it f) k x.Name=false:=by
   rw [←Bool.not_eq_true,htk]
   rintro ⟨y,hy,e⟩
   exact hb y hy e
  rw [hfree,bW (show gJ true false=0 from rfl)] at hE
  clear htk hfree
  refine W0e ?_
  refine bY (t:=77) [1,2,3] (x.Min > x.Def∨x.Def > x.Max∨cY x.Min=false∨cY x.Max=false) rfl (fun Q' K=>?_) ?_
  ·repeat' (first|refine Ng ?_|refine NG a5 IG ?_|refine NN IG ?_|refine NO NB ?_|refine NR NA (fun _=>?_) (fun _=>?_))
   all_goals exact K _ _ rfl rfl (by clear K ha hb hE hno;grind)
  repeat' (first|refine Ng ?_|fail)
  refine aj rfl (fun h4=>?_) (fun h4=>?_)
  ·have h4:=Ny h4
   refine W0c ?_
   exact NU a5 0 [] NC (List.nil_sublist _) (lK k (hno _ (by rw [hE,if_pos h4];rfl) (by omega)))
  have h4:=Nx h4
  refine W02 ?_
  exact aC (k+1) rfl ⟨by rw [Nv];rfl,trivial⟩ ⟨by omega,eh hx ha (by rw [hE,if_neg h4];rfl)⟩ (by omega) (fun _ _ h=>h)
 have hil:i=f.Axes.length:=by have:=Nx h;omega
 subst hil
 clear h hi
 rw [bW (eE hl ha)]
 clear ha
 refine W01 ?_
 refine aj rfl (fun h=>?_) (fun h=>?_)
 ·have h:=Ny h
  refine W0c ?_
  exact NU a5 0 [] NC (List.nil_sublist _) (lK 0 (by rw [ei (by omega)];rfl))
 have hr:(f.Regions.length:Int)≤16:=by have:=Nx h;omega
 clear h
 refine W03 ?_
 refine aM [1,2] (α:=Nat) (fun i=>[(9,aK i)]) (fun i=>i≤f.Regions.length∧∀j y,j < i→f.Regions[j]?=some y→jN f j y=0) (fun _=>[(rb,.box [aK 0,aK 0] 55)]) (fun i=>f.Regions.length - i) 0 rfl ⟨rfl,trivial⟩ ⟨Nat.zero_le _,dv⟩ (fun _ _ h=>h) ?_
 rintro i ⟨hi,ha⟩
 try dsimp only [Ns,Nr,Nq,Nk]
 refine W01 ?_
 refine aj rfl (fun h=>?_) (fun h=>?_)
 ·have hil:i < f.Regions.length:=by have:=Ny h;omega
  obtain ⟨x,hx⟩:∃z,f.Regions[i]?=some z:=⟨_,Nz hil⟩
  have hxg:=bG (c:=bX) hx
  have hxl:(x.map iL).length=x.length:=Nu ..
  have hE:jN f i x=if (x.length:Int)≠f.Axes.length then 61 else (cw x kN).1:=rfl
  have hno:jN f i x=61→eA [(bT 16 f.Regions (jN f)).1]=61:=fun h=>by rw [dG hr hx ha h (by omega)];rfl
  refine W0n ?_
  refine bv 10 [(0,.v),(1,.v),(2,.v),(3,.v),(4,.v),(5,.v),(6,.v),(7,.v),(8,.v),(9,.v)] none ?_ trivial rfl (by kernel_rfl) (by kernel_rfl) (by kernel_rfl) bQ (by kernel_rfl) rfl
  refine W0b ?_
  refine NP [1,2,9,98,101] IG ?_
  refine W0k ?_
  refine aj rfl (fun h2=>?_) (fun h2=>?_)
  ·have h2:=Ny h2
   refine W0c ?_
   exact NU a5 0 [] NC (List.nil_sublist _) (lK i (hno (by rw [hE,if_pos (by omega)])))
  have h2:x.length=f.Axes.length:=by have:=Nx h2;omega
  rw [if_neg (by omega)] at hE
  refine W03 ?_
  refine aM [1,2,9] (α:=Nat) (fun k=>[(10,aK k)]) (fun k=>k≤x.length∧∀j y,j < k→x[j]?=some y→kN j y=0) (fun _=>[(rb,.box [aK 0,aK 0] 55)]) (fun k=>x.length - k) 0 rfl ⟨rfl,trivial⟩ ⟨Nat.zero_le _,dv⟩ (fun _ _ h=>h) ?_
  clear h
  rintro k ⟨hk,hb⟩
  try dsimp only [Ns,Nr,Nq,Nk]
  refine W01 ?_
  refine aj rfl (fun h=>?_) (fun h=>?_)
  ·have hkl:k < x.length:=by have:=Ny h;omega
   obtain ⟨y,hy⟩:∃z,x[k]?=some z:=⟨_,Nz (by omega)⟩
   have hyg:=bG (c:=iL) hy
   refine W0w ?_
   refine aj rfl (fun h3=>?_) (fun h3=>?_)
   ·have h3:nq y=false:=by simpa using h3
    refine W0c ?_
    exact NU a5 0 [] NC (List.nil_sublist _) (lK i (hno (by rw [hE,gx (e:=61) hy hb (by rw [Gx,h3];rfl) (by omega)])))
   have h3:nq y=true:=by simpa using h3
   refine W02 ?_
   exact aC (k+1) rfl ⟨by rw [Nv];rfl,trivial⟩ ⟨by omega,eh hy hb (by rw [Gx,h3];rfl)⟩ (by omega) (fun _ _ h=>h)
  have hkl:k=x.length:=by have:=Nx h;omega
  subst hkl
  refine W02 ?_
  exact aC (i+1) rfl ⟨by rw [Nv];rfl,trivial⟩ ⟨by omega,eh hx ha (by rw [hE,eQ hb])⟩ (by omega) (fun _ _ h=>h)
 have hil:i=f.Regions.length:=by have:=Nx h;omega
 subst hil
 refine W0c ?_
 exact NU a5 0 [] NC (List.nil_sublist _) (lK 0 (by rw [bW (eE hr ha)];rfl))
end Go.Proofs.YtpmdfoaadejmkaaGreatDoor
